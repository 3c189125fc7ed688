/- Walks: each function computes its model. No condition. -/
import Derived.Test.YtpkfhjbgnpdgcaaB
/- Each Go function computes its model: proofs laid by a program of ours. -/
set_option maxHeartbeats 40000000
set_option synthInstance.maxHeartbeats 2000000
set_option synthInstance.maxSize 4000
set_option linter.unusedSimpArgs false
set_option linter.unusedVariables false
set_option maxRecDepth 100000
namespace Go.Proofs.Ytpkfhjbgnpdgcaa
open Go Go.Proofs Go.Abs
theorem w_streams_validName (N : Nat) (a0 : ByteArray) (r : Bool) (h : streams_validName N a0 = some r) : Con Try.prog 21 [] true [.val (.string a0)] (.val (.bool r)) := by
  refine fun_ok4 (G := (glist [])) Try.func21 rfl (by decide) (by kernel_rfl) gn [] mix (Nat.le_of_ble_eq_true rfl) ?_
  simp only [Try.f21]
  unfold streams_validName at h
  refine Wk_seq (Wk_regionZ fun Z hZ => ?_)
  simp only [go_sem, seval]
  refine hZ _ (pp (Wk_seq (Wk_regionZ fun Z hZ => ?_)))
  simp only [go_sem, seval]
  refine RX_guard_dec rfl (fun hc1 => ?_) (fun hc1 => ?_)
  · have hc1d := decide_eq_true hc1
    rw [if_pos hc1] at h
    simp only [go_sem, seval, hc1d]
    refine hZ _ (pp (Wk_ret (pp ?_)))
    cases h
    simp only [go_sem, seval]
    exact ⟨_, rfl, RokI.h, PureI.h⟩
  have hc1d := decide_eq_false hc1
  rw [if_neg hc1] at h
  simp only [go_sem, seval, hc1d]
  refine hZ _ (pp (Wk_ret (pp ?_)))
  cases h
  simp only [go_sem, seval]
  exact ⟨_, rfl, RokI.h, PureI.h⟩
def fs_streams_validName (N : Nat) : FnS := ⟨[], true, fn1 decS fun q0 => (streams_validName N q0).map fun r => .val (.bool r), false⟩
attribute [go_sem] fs_streams_validName
theorem fs_streams_validName_ok (N : Nat) : FSOk Try.prog 21 (fs_streams_validName N) := ok1 (fun q0 r h => by
  obtain ⟨r', hr, rfl⟩ := Option.map_eq_some_iff.1 h
  exact w_streams_validName N q0 r' hr) (decS_le)


noncomputable def G_streams_New (N d f : Nat) : Option FnS := glist [(5, 21, fs_streams_validName N)] d f
attribute [go_sem] G_streams_New
theorem w_streams_New (N : Nat) (a0 : ByteArray) (r : Topic × Int) (h : streams_New N a0 = some r) : Con Try.prog 7 [] true [.val (.string a0)] (.tup [.agg (Topic.row r.1), .val (.int .i64 r.2)]) := by
  refine fun_ok4 (G := (G_streams_New N)) Try.func7 rfl (by decide) (by kernel_rfl) (gc 5 (fs_streams_validName_ok N) gn) [] mix (Nat.le_of_ble_eq_true rfl) ?_
  simp only [Try.f7]
  unfold streams_New at h
  refine Wk_seq (Wk_regionZ fun Z hZ => ?_)
  simp only [go_sem, seval]
  refine hZ _ (pp (Wk_seq (Wk_seq ?_)))
  obtain ⟨r1, hr1, h⟩ := Option.bind_eq_some_iff.1 h
  refine Wk_regionZ fun Z hZ => ?_
  simp only [go_sem, seval, hr1]
  refine hZ _ (pp (Wk_cond_nbool rfl (fun hc2 => ?_) (fun hc2 => ?_)))
  · rw [if_neg (ne_true_of_eq_false hc2)] at h
    refine Wk_seq (Wk_regionZ fun Z hZ => ?_)
    simp only [go_sem, seval, hc2]
    refine hZ _ (pp (Wk_ret (pp ?_)))
    cases h
    simp only [go_sem, seval]
    exact ⟨_, rfl, RokI.h, PureI.h⟩
  rw [if_pos hc2] at h
  refine Wk_skip (pp (Wk_seq (Wk_regionZ fun Z hZ => ?_)))
  simp only [go_sem, seval, hc2]
  refine hZ _ (pp (Wk_ret (pp ?_)))
  cases h
  simp only [go_sem, seval]
  exact ⟨_, rfl, RokI.h, PureI.h⟩
def fs_streams_New (N : Nat) : FnS := ⟨[], true, fn1 decS fun q0 => (streams_New N q0).map fun r => .tup [.agg (Topic.row r.1), .val (.int .i64 r.2)], false⟩
attribute [go_sem] fs_streams_New
theorem fs_streams_New_ok (N : Nat) : FSOk Try.prog 7 (fs_streams_New N) := ok1 (fun q0 r h => by
  obtain ⟨r', hr, rfl⟩ := Option.map_eq_some_iff.1 h
  exact w_streams_New N q0 r' hr) (decS_le)


noncomputable def G_streams_validKey (N d f : Nat) : Option FnS := glist [(7, 21, fs_streams_validName N), (10, 21, fs_streams_validName N)] d f
attribute [go_sem] G_streams_validKey
theorem w_streams_validKey (N : Nat) (a0 : Ref) (a1 : ByteArray) (r : Bool) (h : streams_validKey N a0 a1 = some r) : Con Try.prog 29 [] true [.agg [.val (.string a0.Type_), .val (.string a0.Key)], .val (.string a1)] (.val (.bool r)) := by
  refine fun_ok4 (G := (G_streams_validKey N)) Try.func29 rfl (by decide) (by kernel_rfl) (gc 7 (fs_streams_validName_ok N) (gc 10 (fs_streams_validName_ok N) gn)) [] mix (Nat.le_of_ble_eq_true rfl) ?_
  simp only [Try.f29]
  unfold streams_validKey at h
  refine Wk_seq (Wk_regionZ fun Z hZ => ?_)
  simp only [go_sem, seval]
  refine hZ _ (pp (Wk_seq ?_))
  obtain ⟨r1, hr1, h⟩ := Option.bind_eq_some_iff.1 h
  refine Wk_regionZ fun Z hZ => ?_
  simp only [go_sem, seval, hr1]
  refine sw (RX_guard_bool rfl) (fun hc2 => ?_) (fun hc2 => ?_)
  · rw [if_neg (ne_true_of_eq_false hc2)] at h
    simp only [go_sem, seval, hc2]
    refine hZ _ (pp (Wk_ret (pp ?_)))
    cases h
    simp only [go_sem, seval]
    exact ⟨_, rfl, RokI.h, PureI.h⟩
  rw [if_pos hc2] at h
  obtain ⟨r2, hr3, h⟩ := Option.bind_eq_some_iff.1 h
  simp only [go_sem, seval, hc2, hr3]
  refine RX_guard_bool rfl (fun hc4 => ?_) (fun hc4 => ?_)
  · rw [if_pos hc4] at h
    simp only [go_sem, seval, hc4]
    refine hZ _ (pp (Wk_ret (pp ?_)))
    cases h
    simp only [go_sem, seval]
    exact ⟨_, rfl, RokI.h, PureI.h⟩
  rw [if_neg (ne_true_of_eq_false hc4)] at h
  simp only [go_sem, seval, hc4]
  refine hZ _ (pp (Wk_ret (pp ?_)))
  cases h
  simp only [go_sem, seval]
  exact ⟨_, rfl, RokI.h, PureI.h⟩
def fs_streams_validKey (N : Nat) : FnS := ⟨[], true, fn2 Ref.decA decS fun q0 q1 => (streams_validKey N q0 q1).map fun r => .val (.bool r), false⟩
attribute [go_sem] fs_streams_validKey
theorem fs_streams_validKey_ok (N : Nat) : FSOk Try.prog 29 (fs_streams_validKey N) := ok2 (fun q0 q1 r h => by
  obtain ⟨r', hr, rfl⟩ := Option.map_eq_some_iff.1 h
  exact w_streams_validKey N q0 q1 r' hr) (Ref.decA_le) (decS_le)


theorem w_cmp_isNaN_string (N : Nat) (a0 : ByteArray) (r : Bool) (h : cmp_isNaN_string N a0 = some r) : Con Try.prog 46 [] true [.val (.string a0)] (.val (.bool r)) := by
  refine fun_ok4 (G := (glist [])) Try.func46 rfl (by decide) (by kernel_rfl) gn [] mix (Nat.le_of_ble_eq_true rfl) ?_
  simp only [Try.f46]
  unfold cmp_isNaN_string at h
  refine Wk_seq (Wk_regionZ fun Z hZ => ?_)
  simp only [go_sem, seval]
  refine hZ _ (pp (Wk_seq (Wk_regionZ fun Z hZ => ?_)))
  simp only [go_sem, seval]
  refine hZ _ (pp (Wk_ret (pp ?_)))
  cases h
  simp only [go_sem, seval]
  exact ⟨_, rfl, RokI.h, PureI.h⟩
def fs_cmp_isNaN_string (N : Nat) : FnS := ⟨[], true, fn1 decS fun q0 => (cmp_isNaN_string N q0).map fun r => .val (.bool r), false⟩
attribute [go_sem] fs_cmp_isNaN_string
theorem fs_cmp_isNaN_string_ok (N : Nat) : FSOk Try.prog 46 (fs_cmp_isNaN_string N) := ok1 (fun q0 r h => by
  obtain ⟨r', hr, rfl⟩ := Option.map_eq_some_iff.1 h
  exact w_cmp_isNaN_string N q0 r' hr) (decS_le)


noncomputable def G_cmp_Compare_string (N d f : Nat) : Option FnS := glist [(8, 46, fs_cmp_isNaN_string N), (10, 46, fs_cmp_isNaN_string N)] d f
attribute [go_sem] G_cmp_Compare_string
theorem w_cmp_Compare_string (N : Nat) (a0 : ByteArray) (a1 : ByteArray) (r : Int) (h : cmp_Compare_string N a0 a1 = some r) : Con Try.prog 43 [] true [.val (.string a0), .val (.string a1)] (.val (.int .i64 r)) := by
  refine fun_ok4 (G := (G_cmp_Compare_string N)) Try.func43 rfl (by decide) (by kernel_rfl) (gc 8 (fs_cmp_isNaN_string_ok N) (gc 10 (fs_cmp_isNaN_string_ok N) gn)) [] mix (Nat.le_of_ble_eq_true rfl) ?_
  simp only [Try.f43]
  unfold cmp_Compare_string at h
  refine Wk_seq (Wk_regionZ fun Z hZ => ?_)
  simp only [go_sem, seval]
  refine hZ _ (pp (Wk_seq ?_))
  obtain ⟨r1, hr1, h⟩ := Option.bind_eq_some_iff.1 h
  refine Wk_regionZ fun Z hZ => ?_
  simp only [go_sem, seval, hr1]
  refine hZ _ (pp (Wk_seq ?_))
  obtain ⟨r2, hr2, h⟩ := Option.bind_eq_some_iff.1 h
  refine Wk_regionZ fun Z hZ => ?_
  simp only [go_sem, seval, hr2]
  refine hZ _ (pp (Wk_seq (Wk_seq (Wk_regionZ fun Z hZ => ?_))))
  simp only [go_sem, seval]
  refine hZ _ (pp (Wk_cond_bool rfl (fun hc3 => ?_) (fun hc3 => ?_)))
  · first | rw [if_pos hc3] at h | simp only [hc3, Bool.or_false, Bool.or_true, Bool.false_or, Bool.true_or, Bool.and_true, Bool.true_and, Bool.and_false, Bool.false_and, Bool.not_true, Bool.not_false, Bool.false_eq_true, if_true, if_false] at h
    refine Wk_seq (Wk_seq (Wk_regionZ fun Z hZ => ?_))
    simp only [go_sem, seval, hc3]
    refine hZ _ (pp (Wk_cond_bool rfl (fun hc4 => ?_) (fun hc4 => ?_)))
    · first | rw [if_pos hc4] at h | simp only [hc4, hc3, Bool.or_false, Bool.or_true, Bool.false_or, Bool.true_or, Bool.and_true, Bool.true_and, Bool.and_false, Bool.false_and, Bool.not_true, Bool.not_false, Bool.false_eq_true, if_true, if_false] at h
      refine Wk_seq (Wk_regionZ fun Z hZ => ?_)
      simp only [go_sem, seval, hc4]
      refine hZ _ (pp (Wk_ret (pp ?_)))
      cases h
      simp only [go_sem, seval]
      exact ⟨_, rfl, RokI.h, PureI.h⟩
    first | rw [if_neg (ne_true_of_eq_false hc4)] at h | simp only [hc4, hc3, Bool.or_false, Bool.or_true, Bool.false_or, Bool.true_or, Bool.and_true, Bool.true_and, Bool.and_false, Bool.false_and, Bool.not_true, Bool.not_false, Bool.false_eq_true, if_true, if_false] at h
    refine Wk_skip (pp (Wk_seq (Wk_regionZ fun Z hZ => ?_)))
    simp only [go_sem, seval, hc4]
    refine hZ _ (pp (Wk_ret (pp ?_)))
    cases h
    simp only [go_sem, seval]
    exact ⟨_, rfl, RokI.h, PureI.h⟩
  first | rw [if_neg (ne_true_of_eq_false hc3)] at h | simp only [hc3, Bool.or_false, Bool.or_true, Bool.false_or, Bool.true_or, Bool.and_true, Bool.true_and, Bool.and_false, Bool.false_and, Bool.not_true, Bool.not_false, Bool.false_eq_true, if_true, if_false] at h
  refine Wk_skip (pp (Wk_seq (Wk_seq (Wk_regionZ fun Z hZ => ?_))))
  simp only [go_sem, seval, hc3]
  refine hZ _ (pp (Wk_cond_bool rfl (fun hc5 => ?_) (fun hc5 => ?_)))
  · first | rw [if_pos hc5] at h | simp only [hc5, hc3, Bool.or_false, Bool.or_true, Bool.false_or, Bool.true_or, Bool.and_true, Bool.true_and, Bool.and_false, Bool.false_and, Bool.not_true, Bool.not_false, Bool.false_eq_true, if_true, if_false] at h
    refine Wk_seq (Wk_regionZ fun Z hZ => ?_)
    simp only [go_sem, seval, hc5]
    refine hZ _ (pp (Wk_ret (pp ?_)))
    cases h
    simp only [go_sem, seval]
    exact ⟨_, rfl, RokI.h, PureI.h⟩
  first | rw [if_neg (ne_true_of_eq_false hc5)] at h | simp only [hc5, hc3, Bool.or_false, Bool.or_true, Bool.false_or, Bool.true_or, Bool.and_true, Bool.true_and, Bool.and_false, Bool.false_and, Bool.not_true, Bool.not_false, Bool.false_eq_true, if_true, if_false] at h
  refine Wk_skip (pp (Wk_seq (Wk_seq (Wk_regionZ fun Z hZ => ?_))))
  simp only [go_sem, seval, hc5]
  refine hZ _ (pp (Wk_cond_bool rfl (fun hc6 => ?_) (fun hc6 => ?_)))
  · first | rw [if_pos hc6] at h | simp only [hc6, hc3, hc5, Bool.or_false, Bool.or_true, Bool.false_or, Bool.true_or, Bool.and_true, Bool.true_and, Bool.and_false, Bool.false_and, Bool.not_true, Bool.not_false, Bool.false_eq_true, if_true, if_false] at h
    refine Wk_seq (Wk_regionZ fun Z hZ => ?_)
    simp only [go_sem, seval, hc6]
    refine hZ _ (pp (Wk_ret (pp ?_)))
    cases h
    simp only [go_sem, seval]
    exact ⟨_, rfl, RokI.h, PureI.h⟩
  first | rw [if_neg (ne_true_of_eq_false hc6)] at h | simp only [hc6, hc3, hc5, Bool.or_false, Bool.or_true, Bool.false_or, Bool.true_or, Bool.and_true, Bool.true_and, Bool.and_false, Bool.false_and, Bool.not_true, Bool.not_false, Bool.false_eq_true, if_true, if_false] at h
  refine Wk_skip (pp (Wk_seq (Wk_seq (Wk_regionZ fun Z hZ => ?_))))
  simp only [go_sem, seval, hc6]
  refine hZ _ (pp (Wk_cond_nbool rfl (fun hc7 => ?_) (fun hc7 => ?_)))
  · first | rw [if_neg (ne_true_of_eq_false hc7)] at h | simp only [hc7, hc6, Bool.or_false, Bool.false_eq_true, if_false] at h
    refine Wk_seq (Wk_regionZ fun Z hZ => ?_)
    simp only [go_sem, seval, hc7]
    refine hZ _ (pp (Wk_ret (pp ?_)))
    cases h
    simp only [go_sem, seval]
    exact ⟨_, rfl, RokI.h, PureI.h⟩
  first | rw [if_pos hc7] at h | simp only [hc7, hc6, Bool.or_true, if_true] at h
  refine Wk_skip (pp (Wk_seq (Wk_regionZ fun Z hZ => ?_)))
  simp only [go_sem, seval, hc7]
  refine hZ _ (pp (Wk_ret (pp ?_)))
  cases h
  simp only [go_sem, seval]
  exact ⟨_, rfl, RokI.h, PureI.h⟩
def fs_cmp_Compare_string (N : Nat) : FnS := ⟨[], true, fn2 decS decS fun q0 q1 => (cmp_Compare_string N q0 q1).map fun r => .val (.int .i64 r), false⟩
attribute [go_sem] fs_cmp_Compare_string
theorem fs_cmp_Compare_string_ok (N : Nat) : FSOk Try.prog 43 (fs_cmp_Compare_string N) := ok2 (fun q0 q1 r h => by
  obtain ⟨r', hr, rfl⟩ := Option.map_eq_some_iff.1 h
  exact w_cmp_Compare_string N q0 q1 r' hr) (decS_le) (decS_le)


theorem w_cmp_Or_int (N : Nat) (a0 : (List Int)) (r : Int) (h : cmp_Or_int N a0 = some r) : Con Try.prog 42 [] true [.sl false none 1 none (a0.map (rowI .i64))] (.val (.int .i64 r)) := by
  refine fun_ok4 (G := (glist [])) Try.func42 rfl (by decide) (by kernel_rfl) gn [] mix (Nat.le_of_ble_eq_true rfl) ?_
  simp only [Try.f42]
  unfold cmp_Or_int at h
  refine Wk_seq (Wk_regionZ fun Z hZ => ?_)
  simp only [go_sem, seval]
  refine hZ _ (pp (Wk_seq (Wk_regionZ fun Z hZ => ?_)))
  simp only [go_sem, seval]
  refine hZ _ (pp (Wk_seq (Wk_seq (Wk_regionZ fun Z hZ => ?_))))
  simp only [go_sem, seval]
  refine hZ _ (pp (Wk_block (Wk_real fun hreal2 => ?_)))
  have hl1 := hreal2.lenT 0 (by decide) (by simp only [go_sem, seval]; rfl)
  rw [List.length_map] at hl1
  refine Wk_range (fun (v2 : Nat) (b : Unit) => ⟨tab 18 (updT (updT (updT (updT deadT 3 (.val (.int .i64 0))) 6 (.sl false none 1 none (a0.map (rowI .i64)))) 7 (.val (.int .i64 ((a0.length : Nat) : Int)))) 8 (.val (.int .i64 ((v2 : Nat) : Int)))), RZ⟩) () h ?_ ?_
  · refine weak_roots ?_ ?_ <;> repeat' first | exact xn | exact rn | refine xc ?_ ?_ | refine rc ?_ ?_ ?_ | rfl
  rintro v2 ⟨⟩ hi3 h -
  rcases (drop_cases a0 v2 hi3).symm with ⟨hi3', _, hd6⟩ | ⟨x5, hi3', hx4, hd6⟩
  · rw [hd6] at h
    simp only [cmp_Or_int_L1] at h
    refine Wk_seq (Wk_regionZ fun Z hZ => ?_)
    simp only [go_sem, seval, hi3']
    refine hZ _ (pp (Wk_seq ?_))
    try simp only [Int.ofNat_lt, hi3', if_true, if_false] at h
    refine Wk_cond_f rfl (Wk_exit (pp (Wk_seq (Wk_regionZ fun Z hZ => ?_))))
    simp only [go_sem, seval]
    refine hZ _ (pp (Wk_ret (pp ?_)))
    cases h
    simp only [go_sem, seval]
    exact ⟨_, rfl, RokI.h, PureI.h⟩
  rw [hd6] at h
  simp only [cmp_Or_int_L1] at h
  have hw5 := wrap_succ hi3' hl1
  refine Wk_seq (Wk_regionZ fun Z hZ => ?_)
  simp only [go_sem, seval, hi3']
  refine hZ _ (pp (Wk_seq ?_))
  try simp only [Int.ofNat_lt, hi3', if_true, if_false] at h
  refine Wk_cond_t rfl (Wk_skip (pp (Wk_seq (Wk_block (Wk_seq ?_)))))
  try rw [gx_nat hx4] at h
  refine Wk_regionZ fun Z hZ => ?_
  simp only [go_sem, seval, hx4, hi3']
  refine hZ _ (pp (Wk_seq (Wk_regionZ fun Z hZ => ?_)))
  simp only [go_sem, seval]
  refine hZ _ (pp (Wk_cond_ndec rfl (fun hc7 => ?_) (fun hc7 => ?_)))
  · have hc7d := decide_eq_false hc7
    rw [if_neg hc7] at h
    refine Wk_seq (Wk_regionZ fun Z hZ => ?_)
    simp only [go_sem, seval, hc7d]
    refine hZ _ (pp (Wk_ret (pp ?_)))
    cases h
    simp only [go_sem, seval]
    exact ⟨_, rfl, RokI.h, PureI.h⟩
  have hc7d := decide_eq_true hc7
  rw [if_pos hc7] at h
  refine Wk_skip (pp (Wk_regionZ fun Z hZ => ?_))
  simp only [go_sem, seval, hw5, hc7d]
  refine hZ _ (pp ?_)
  first | refine ⟨(), ?_, h⟩ | refine ⟨hi3', (), ?_, h⟩
  refine weak_roots ?_ ?_ <;> repeat' first | exact xn | exact rn | refine xc ?_ ?_ | refine rc ?_ ?_ ?_ | rfl
def fs_cmp_Or_int (N : Nat) : FnS := ⟨[], true, fn1 (decL 1 (dec1 (decI .i64))) fun q0 => (cmp_Or_int N q0).map fun r => .val (.int .i64 r), false⟩
attribute [go_sem] fs_cmp_Or_int
theorem fs_cmp_Or_int_ok (N : Nat) : FSOk Try.prog 42 (fs_cmp_Or_int N) := ok1 (fun q0 r h => by
  obtain ⟨r', hr, rfl⟩ := Option.map_eq_some_iff.1 h
  exact w_cmp_Or_int N q0 r' hr) (fun h => decL_le (decI1_le .i64) h)


noncomputable def G_streams_compare (N d f : Nat) : Option FnS := glist [(12, 43, fs_cmp_Compare_string N), (18, 43, fs_cmp_Compare_string N), (22, 43, fs_cmp_Compare_string N), (24, 42, fs_cmp_Or_int N)] d f
attribute [go_sem] G_streams_compare
theorem w_streams_compare (N : Nat) (a0 : Sub) (a1 : Ref) (a2 : ByteArray) (r : Int) (h : streams_compare N a0 a1 a2 = some r) : Con Try.prog 33 [] true [.agg (Sub.row a0), .agg [.val (.string a1.Type_), .val (.string a1.Key)], .val (.string a2)] (.val (.int .i64 r)) := by
  refine fun_ok4 (G := (G_streams_compare N)) Try.func33 rfl (by decide) (by kernel_rfl) (gc 12 (fs_cmp_Compare_string_ok N) (gc 18 (fs_cmp_Compare_string_ok N) (gc 22 (fs_cmp_Compare_string_ok N) (gc 24 (fs_cmp_Or_int_ok N) gn)))) [] mix (Nat.le_of_ble_eq_true rfl) ?_
  simp only [Try.f33]
  unfold streams_compare at h
  refine Wk_seq (Wk_regionZ fun Z hZ => ?_)
  simp only [go_sem, seval]
  refine hZ _ (pp (Wk_seq ?_))
  obtain ⟨r1, hr1, h⟩ := Option.bind_eq_some_iff.1 h
  obtain ⟨r2, hr2, h⟩ := Option.bind_eq_some_iff.1 h
  obtain ⟨r3, hr3, h⟩ := Option.bind_eq_some_iff.1 h
  obtain ⟨r4, hr4, h⟩ := Option.bind_eq_some_iff.1 h
  refine Wk_regionD fun Z hZ => ?_
  simp only [go_sem, seval, hr1, hr2, hr3, hr4]
  repeat with_reducible refine and_bar (by kernel_rfl) ?_
  refine hZ _ (by kernel_rfl) (pp (Wk_ret (pp ?_)))
  cases h
  simp only [go_sem, seval]
  exact ⟨_, rfl, RokI.h, PureI.h⟩
def fs_streams_compare (N : Nat) : FnS := ⟨[], true, fn3 Sub.decA Ref.decA decS fun q0 q1 q2 => (streams_compare N q0 q1 q2).map fun r => .val (.int .i64 r), false⟩
attribute [go_sem] fs_streams_compare
theorem fs_streams_compare_ok (N : Nat) : FSOk Try.prog 33 (fs_streams_compare N) := ok3 (fun q0 q1 q2 r h => by
  obtain ⟨r', hr, rfl⟩ := Option.map_eq_some_iff.1 h
  exact w_streams_compare N q0 q1 q2 r' hr) (Sub.decA_le) (Ref.decA_le) (decS_le)


noncomputable def G_streams_Valid (N d f : Nat) : Option FnS := glist [(7, 21, fs_streams_validName N), (47, 29, fs_streams_validKey N), (80, 33, fs_streams_compare N)] d f
attribute [go_sem] G_streams_Valid
theorem w_streams_Valid (N : Nat) (a0 : Topic) (r : Bool) (h : streams_Valid N a0 = some r) : Con Try.prog 19 [] true [.agg (Topic.row a0)] (.val (.bool r)) := by
  refine fun_ok4 (G := (G_streams_Valid N)) Try.func19 rfl (by decide) (by kernel_rfl) (gc 7 (fs_streams_validName_ok N) (gc 47 (fs_streams_validKey_ok N) (gc 80 (fs_streams_compare_ok N) gn))) [] mix (Nat.le_of_ble_eq_true rfl) ?_
  simp only [Try.f19]
  unfold streams_Valid at h
  refine Wk_seq (Wk_regionZ fun Z hZ => ?_)
  simp only [go_sem, seval]
  refine hZ _ (pp (Wk_seq ?_))
  apply Wk_join1 (fun (c5 : Bool) => ⟨tab 84 (updT (updT deadT 1 (.pref 1 [] 0 0)) 34 (.val (.bool c5))), (upd RZ 1 (.sl true none 4 (some 1) [Topic.row a0]))⟩)
  · intro hJ1
    obtain ⟨r6, hr2, h⟩ := Option.bind_eq_some_iff.1 h
    refine Wk_regionZ fun Z hZ => ?_
    simp only [go_sem, seval, hr2]
    refine RX_guard_nbool rfl (fun hc3 => ?_) (fun hc3 => ?_)
    · rw [if_neg (ne_true_of_eq_false hc3)] at h
      simp only [go_sem, seval, hc3]
      refine hZ _ (pp (hJ1 _ true ?_ h))
      refine weak_roots ?_ ?_ <;> repeat' first | exact xn | exact rn | refine xc ?_ ?_ | refine rc ?_ ?_ ?_ | rfl
    rw [if_pos hc3] at h
    simp only [go_sem, seval, hc3]
    refine RX_guard_dec rfl (fun hc4 => ?_) (fun hc4 => ?_)
    · have hc4d := decide_eq_true hc4
      rw [if_pos hc4] at h
      simp only [go_sem, seval, hc4d]
      refine hZ _ (pp (hJ1 _ true ?_ h))
      refine weak_roots ?_ ?_ <;> repeat' first | exact xn | exact rn | refine xc ?_ ?_ | refine rc ?_ ?_ ?_ | rfl
    have hc4d := decide_eq_false hc4
    rw [if_neg hc4] at h
    simp only [go_sem, seval, hc4d]
    refine RX_guard_dec rfl (fun hc5 => ?_) (fun hc5 => ?_)
    · have hc5d := decide_eq_true hc5
      rw [if_pos hc5] at h
      simp only [go_sem, seval, hc5d]
      refine hZ _ (pp (hJ1 _ true ?_ h))
      refine weak_roots ?_ ?_ <;> repeat' first | exact xn | exact rn | refine xc ?_ ?_ | refine rc ?_ ?_ ?_ | rfl
    have hc5d := decide_eq_false hc5
    rw [if_neg hc5] at h
    simp only [go_sem, seval, hc5d]
    refine RX_guard_dec rfl (fun hc6 => ?_) (fun hc6 => ?_)
    · have hc6d := decide_eq_true hc6
      rw [if_pos hc6] at h
      simp only [go_sem, seval, hc6d]
      refine hZ _ (pp (hJ1 _ true ?_ h))
      refine weak_roots ?_ ?_ <;> repeat' first | exact xn | exact rn | refine xc ?_ ?_ | refine rc ?_ ?_ ?_ | rfl
    have hc6d := decide_eq_false hc6
    rw [if_neg hc6] at h
    simp only [go_sem, seval, hc6d]
    refine hZ _ (pp (hJ1 _ (decide (8 < ((a0.Subs.length : Nat) : Int))) ?_ h))
    refine weak_roots ?_ ?_ <;> repeat' first | exact xn | exact rn | refine xc ?_ ?_ | refine rc ?_ ?_ ?_ | rfl
  intro c5 h
  unfold streams_Valid_J1 at h
  refine Wk_cond_bool rfl (fun hc7 => ?_) (fun hc7 => ?_)
  · rw [if_pos hc7] at h
    refine Wk_seq (Wk_regionZ fun Z hZ => ?_)
    simp only [go_sem, seval, hc7]
    refine hZ _ (pp (Wk_ret (pp ?_)))
    cases h
    simp only [go_sem, seval]
    exact ⟨_, rfl, RokI.h, PureI.h⟩
  rw [if_neg (ne_true_of_eq_false hc7)] at h
  refine Wk_skip (pp ?_)
  unfold streams_Valid_J5 at h
  refine Wk_seq (Wk_seq (Wk_regionZ fun Z hZ => ?_))
  simp only [go_sem, seval, hc7]
  refine hZ _ (pp (Wk_block (Wk_real fun hreal9 => ?_)))
  have hl8 := hreal9.lenT 36 (by decide) (by simp only [go_sem, seval]; rfl)
  rw [List.length_map] at hl8
  refine Wk_range (fun (v6 : Nat) (b : Unit) => ⟨tab 84 (updT (updT (updT (updT deadT 1 (.pref 1 [] 0 0)) 36 (.sl false none 4 none (a0.Subs.map Sub.row))) 37 (.val (.int .i64 ((a0.Subs.length : Nat) : Int)))) 38 (.val (.int .i64 ((v6 : Nat) : Int)))), (upd RZ 1 (.sl true none 4 (some 1) [Topic.row a0]))⟩) () h ?_ ?_
  · refine weak_roots ?_ ?_ <;> repeat' first | exact xn | exact rn | refine xc ?_ ?_ | refine rc ?_ ?_ ?_ | rfl
  rintro v6 ⟨⟩ hi10 h -
  rcases (drop_cases a0.Subs v6 hi10).symm with ⟨hi10', _, hd13⟩ | ⟨x9, hi10', hx11, hd13⟩
  · rw [hd13] at h
    simp only [streams_Valid_L1] at h
    refine Wk_seq (Wk_regionZ fun Z hZ => ?_)
    simp only [go_sem, seval, hi10']
    refine hZ _ (pp (Wk_seq ?_))
    try simp only [Int.ofNat_lt, hi10', if_true, if_false] at h
    refine Wk_cond_f rfl (Wk_exit (pp (Wk_seq (Wk_regionZ fun Z hZ => ?_))))
    simp only [go_sem, seval]
    refine hZ _ (pp (Wk_ret (pp ?_)))
    cases h
    simp only [go_sem, seval]
    exact ⟨_, rfl, RokI.h, PureI.h⟩
  rw [hd13] at h
  simp only [streams_Valid_L1] at h
  have hw12 := wrap_succ hi10' hl8
  refine Wk_seq (Wk_regionZ fun Z hZ => ?_)
  simp only [go_sem, seval, hi10']
  refine hZ _ (pp (Wk_seq ?_))
  try simp only [Int.ofNat_lt, hi10', if_true, if_false] at h
  refine Wk_cond_t rfl (Wk_skip (pp (Wk_seq (Wk_block (Wk_seq ?_)))))
  try rw [gx_nat hx11] at h
  refine Wk_regionZ fun Z hZ => ?_
  simp only [go_sem, seval, hx11, hi10']
  refine hZ _ (pp (Wk_seq ?_))
  apply Wk_join1 (fun (c11 : Bool) => ⟨tab 84 (updT (updT (updT (updT (updT (updT (updT deadT 1 (.pref 1 [] 0 0)) 3 (.val (.int .i64 ((v6 : Nat) : Int)))) 4 (.pref 4 [] 0 0)) 36 (.sl false none 4 none (a0.Subs.map Sub.row))) 37 (.val (.int .i64 ((a0.Subs.length : Nat) : Int)))) 38 (.val (.int .i64 ((v6 : Nat) : Int)))) 66 (.val (.bool c11))), (upd (upd RZ 1 (.sl true none 4 (some 1) [Topic.row a0])) 4 (.sl true none 4 (some 1) [Sub.row x9]))⟩)
  · intro hJ14
    obtain ⟨r12, hr15, h⟩ := Option.bind_eq_some_iff.1 h
    refine Wk_regionZ fun Z hZ => ?_
    simp only [go_sem, seval, hr15]
    refine RX_guard_nbool rfl (fun hc16 => ?_) (fun hc16 => ?_)
    · rw [if_neg (ne_true_of_eq_false hc16)] at h
      simp only [go_sem, seval, hc16]
      refine hZ _ (pp (hJ14 _ true ?_ h))
      refine weak_roots ?_ ?_ <;> repeat' first | exact xn | exact rn | refine xc ?_ ?_ | refine rc ?_ ?_ ?_ | rfl
    rw [if_pos hc16] at h
    simp only [go_sem, seval, hc16]
    refine RX_guard_dec rfl (fun hc17 => ?_) (fun hc17 => ?_)
    · have hc17d := decide_eq_true hc17
      rw [if_pos hc17] at h
      simp only [go_sem, seval, hc17d]
      refine hZ _ (pp (hJ14 _ true ?_ h))
      refine weak_roots ?_ ?_ <;> repeat' first | exact xn | exact rn | refine xc ?_ ?_ | refine rc ?_ ?_ ?_ | rfl
    have hc17d := decide_eq_false hc17
    rw [if_neg hc17] at h
    simp only [go_sem, seval, hc17d]
    refine hZ _ (pp (hJ14 _ (decide ((IntKind.i64.wrap (a0.First + ((a0.Events.length : Nat) : Int))) < x9.Cursor)) ?_ h))
    refine weak_roots ?_ ?_ <;> repeat' first | exact xn | exact rn | refine xc ?_ ?_ | refine rc ?_ ?_ ?_ | rfl
  intro c11 h
  unfold streams_Valid_J2 at h
  refine Wk_cond_bool rfl (fun hc18 => ?_) (fun hc18 => ?_)
  · rw [if_pos hc18] at h
    refine Wk_seq (Wk_regionZ fun Z hZ => ?_)
    simp only [go_sem, seval, hc18]
    refine hZ _ (pp (Wk_ret (pp ?_)))
    cases h
    simp only [go_sem, seval]
    exact ⟨_, rfl, RokI.h, PureI.h⟩
  rw [if_neg (ne_true_of_eq_false hc18)] at h
  refine Wk_skip (pp ?_)
  unfold streams_Valid_J4 at h
  apply Wk_join1 (fun (c15 : Bool) => ⟨tab 84 (updT (updT (updT (updT (updT deadT 1 (.pref 1 [] 0 0)) 36 (.sl false none 4 none (a0.Subs.map Sub.row))) 37 (.val (.int .i64 ((a0.Subs.length : Nat) : Int)))) 38 (.val (.int .i64 ((v6 : Nat) : Int)))) 82 (.val (.bool c15))), (upd RZ 1 (.sl true none 4 (some 1) [Topic.row a0]))⟩)
  · intro hJ19
    refine Wk_regionD fun Z hZ => ?_
    simp only [go_sem, seval, hc18]
    refine RX_guard_dec rfl (fun hc20 => ?_) (fun hc20 => ?_)
    · have hc20d := decide_eq_true hc20
      rw [if_pos hc20] at h
      obtain ⟨x16, hb21, hx22, h⟩ := gx_some h
      obtain ⟨r17, hr23, h⟩ := Option.bind_eq_some_iff.1 h
      simp only [go_sem, seval, hc20d, hb21, hx22, hr23]
      repeat with_reducible refine and_bar (by kernel_rfl) ?_
      refine hZ _ (by kernel_rfl) (pp (hJ19 _ (decide (0 ≤ r17)) ?_ h))
      refine weak_roots ?_ ?_ <;> repeat' first | exact xn | exact rn | refine xc ?_ ?_ | refine rc ?_ ?_ ?_ | rfl
    have hc20d := decide_eq_false hc20
    rw [if_neg hc20] at h
    simp only [go_sem, seval, hc20d]
    refine hZ _ (by kernel_rfl) (pp (hJ19 _ false ?_ h))
    refine weak_roots ?_ ?_ <;> repeat' first | exact xn | exact rn | refine xc ?_ ?_ | refine rc ?_ ?_ ?_ | rfl
  intro c15 h
  unfold streams_Valid_J3 at h
  refine Wk_cond_bool rfl (fun hc24 => ?_) (fun hc24 => ?_)
  · rw [if_pos hc24] at h
    refine Wk_seq (Wk_regionZ fun Z hZ => ?_)
    simp only [go_sem, seval, hc24]
    refine hZ _ (pp (Wk_ret (pp ?_)))
    cases h
    simp only [go_sem, seval]
    exact ⟨_, rfl, RokI.h, PureI.h⟩
  rw [if_neg (ne_true_of_eq_false hc24)] at h
  refine Wk_skip (pp (Wk_regionZ fun Z hZ => ?_))
  simp only [go_sem, seval, hw12, hc24]
  refine hZ _ (pp ?_)
  first | refine ⟨(), ?_, h⟩ | refine ⟨hi10', (), ?_, h⟩
  refine weak_roots ?_ ?_ <;> repeat' first | exact xn | exact rn | refine xc ?_ ?_ | refine rc ?_ ?_ ?_ | rfl
def fs_streams_Valid (N : Nat) : FnS := ⟨[], true, fn1 Topic.decA fun q0 => (streams_Valid N q0).map fun r => .val (.bool r), false⟩
attribute [go_sem] fs_streams_Valid
theorem fs_streams_Valid_ok (N : Nat) : FSOk Try.prog 19 (fs_streams_Valid N) := ok1 (fun q0 r h => by
  obtain ⟨r', hr, rfl⟩ := Option.map_eq_some_iff.1 h
  exact w_streams_Valid N q0 r' hr) (Topic.decA_le)


noncomputable def G_streams_find (N d f : Nat) : Option FnS := glist [(22, 33, fs_streams_compare N), (41, 33, fs_streams_compare N)] d f
attribute [go_sem] G_streams_find
theorem w_streams_find (N : Nat) (a0 : Topic) (a1 : Ref) (a2 : ByteArray) (r : Int × Bool) (h : streams_find N a0 a1 a2 = some r) : Con Try.prog 30 [] true [.agg (Topic.row a0), .agg [.val (.string a1.Type_), .val (.string a1.Key)], .val (.string a2)] (.tup [.val (.int .i64 r.1), .val (.bool r.2)]) := by
  refine fun_ok4 (G := (G_streams_find N)) Try.func30 rfl (by decide) (by kernel_rfl) (gc 22 (fs_streams_compare_ok N) (gc 41 (fs_streams_compare_ok N) gn)) [] mix (Nat.le_of_ble_eq_true rfl) ?_
  simp only [Try.f30]
  unfold streams_find at h
  refine Wk_seq (Wk_regionZ fun Z hZ => ?_)
  simp only [go_sem, seval]
  refine hZ _ (pp (Wk_seq (Wk_regionZ fun Z hZ => ?_)))
  simp only [go_sem, seval]
  refine hZ _ (pp ?_)
  apply Wk_join1 (fun (v9 : Int) => ⟨tab 44 (updT (updT (updT (updT deadT 2 (.val (.string a2))) 3 (.pref 3 [] 0 0)) 4 (.pref 4 [] 0 0)) 8 (.val (.int .i64 v9))), (upd (upd RZ 3 (.sl true none 4 (some 1) [Topic.row a0])) 4 (.sl true none 2 (some 1) [[.val (.string a1.Type_), .val (.string a1.Key)]]))⟩)
  · intro hJ1
    refine Wk_block (Wk_real fun hreal3 => ?_)
    have hl2 := hreal3.cell 3 3 (by simp only [go_sem, seval]; rfl) rfl
    rw [List.length_map] at hl2
    refine Wk_range (fun (v2 : Nat) (b : Unit) => ⟨tab 44 (updT (updT (updT (updT deadT 2 (.val (.string a2))) 3 (.pref 3 [] 0 0)) 4 (.pref 4 [] 0 0)) 8 (.val (.int .i64 ((v2 : Nat) : Int)))), (upd (upd RZ 3 (.sl true none 4 (some 1) [Topic.row a0])) 4 (.sl true none 2 (some 1) [[.val (.string a1.Type_), .val (.string a1.Key)]]))⟩) () h ?_ ?_
    · refine weak_roots ?_ ?_ <;> repeat' first | exact xn | exact rn | refine xc ?_ ?_ | refine rc ?_ ?_ ?_ | rfl
    rintro v2 ⟨⟩ hi4 h -
    rcases (drop_cases a0.Subs v2 hi4).symm with ⟨hi4', _, hd7⟩ | ⟨x6, hi4', hx5, hd7⟩
    · rw [hd7] at h
      simp only [streams_find_L1] at h
      refine Wk_seq (Wk_seq ?_)
      try simp only [Int.ofNat_lt, hi4', if_true, if_false] at h
      refine Wk_regionD fun Z hZ => ?_
      simp only [go_sem, seval, hi4']
      repeat with_reducible refine and_bar (by kernel_rfl) ?_
      refine hZ _ (by kernel_rfl) (pp (Wk_cond_f rfl ?_))
      first | rw [if_pos (rfl : true = true)] at h | rw [if_neg Bool.false_ne_true] at h | skip
      refine Wk_exit (pp (hJ1 _ ((v2 : Nat) : Int) ?_ h))
      refine weak_roots ?_ ?_ <;> repeat' first | exact xn | exact rn | refine xc ?_ ?_ | refine rc ?_ ?_ ?_ | rfl
    rw [hd7] at h
    simp only [streams_find_L1] at h
    have hw6 := wrap_succ hi4' hl2
    refine Wk_seq (Wk_seq ?_)
    try simp only [Int.ofNat_lt, hi4', if_true, if_false] at h
    try rw [gx_nat hx5] at h
    obtain ⟨r10, hr8, h⟩ := Option.bind_eq_some_iff.1 h
    refine Wk_regionD fun Z hZ => ?_
    simp only [go_sem, seval, hx5, hi4', hr8]
    repeat with_reducible refine and_bar (by kernel_rfl) ?_
    refine hZ _ (by kernel_rfl) (pp (Wk_cond_dec rfl (fun hc9 => ?_) (fun hc9 => ?_)))
    · have hc9d := decide_eq_true hc9
      rw [if_pos hc9] at h
      refine Wk_skip (pp (Wk_block (Wk_regionZ fun Z hZ => ?_)))
      simp only [go_sem, seval, hw6, hc9d]
      refine hZ _ (pp ?_)
      first | refine ⟨(), ?_, h⟩ | refine ⟨hi4', (), ?_, h⟩
      refine weak_roots ?_ ?_ <;> repeat' first | exact xn | exact rn | refine xc ?_ ?_ | refine rc ?_ ?_ ?_ | rfl
    have hc9d := decide_eq_false hc9
    rw [if_neg hc9] at h
    refine Wk_exit (pp (hJ1 _ ((v2 : Nat) : Int) ?_ h))
    refine weak_roots ?_ ?_ <;> repeat' first | exact xn | exact rn | refine xc ?_ ?_ | refine rc ?_ ?_ ?_ | rfl
  intro v9 h
  unfold streams_find_J1 at h
  refine Wk_seq (Wk_regionD fun Z hZ => ?_)
  simp only [go_sem, seval]
  repeat with_reducible refine and_bar (by kernel_rfl) ?_
  refine RX_guard_dec rfl (fun hc10 => ?_) (fun hc10 => ?_)
  · have hc10d := decide_eq_true hc10
    rw [if_pos hc10] at h
    obtain ⟨x11, hb11, hx12, h⟩ := gx_some h
    obtain ⟨r12, hr13, h⟩ := Option.bind_eq_some_iff.1 h
    simp only [go_sem, seval, hb11, hx12, hr13]
    repeat with_reducible refine and_bar (by kernel_rfl) ?_
    refine hZ _ (by kernel_rfl) (pp (Wk_ret (pp ?_)))
    cases h
    simp only [go_sem, seval]
    exact ⟨_, rfl, RokI.h, PureI.h⟩
  have hc10d := decide_eq_false hc10
  rw [if_neg hc10] at h
  simp only [go_sem, seval, hc10d]
  refine hZ _ (by kernel_rfl) (pp (Wk_ret (pp ?_)))
  cases h
  simp only [go_sem, seval]
  exact ⟨_, rfl, RokI.h, PureI.h⟩
def fs_streams_find (N : Nat) : FnS := ⟨[], true, fn3 Topic.decA Ref.decA decS fun q0 q1 q2 => (streams_find N q0 q1 q2).map fun r => .tup [.val (.int .i64 r.1), .val (.bool r.2)], false⟩
attribute [go_sem] fs_streams_find
theorem fs_streams_find_ok (N : Nat) : FSOk Try.prog 30 (fs_streams_find N) := ok3 (fun q0 q1 q2 r h => by
  obtain ⟨r', hr, rfl⟩ := Option.map_eq_some_iff.1 h
  exact w_streams_find N q0 q1 q2 r' hr) (Topic.decA_le) (Ref.decA_le) (decS_le)


noncomputable def G_streams_End (N d f : Nat) : Option FnS := glist [(4, 19, fs_streams_Valid N)] d f
attribute [go_sem] G_streams_End
theorem w_streams_End (N : Nat) (a0 : Topic) (r : Int) (h : streams_End N a0 = some r) : Con Try.prog 17 [] true [.agg (Topic.row a0)] (.val (.int .i64 r)) := by
  refine fun_ok4 (G := (G_streams_End N)) Try.func17 rfl (by decide) (by kernel_rfl) (gc 4 (fs_streams_Valid_ok N) gn) [] mix (Nat.le_of_ble_eq_true rfl) ?_
  simp only [Try.f17]
  unfold streams_End at h
  refine Wk_seq (Wk_regionZ fun Z hZ => ?_)
  simp only [go_sem, seval]
  refine hZ _ (pp (Wk_seq (Wk_seq ?_)))
  obtain ⟨r1, hr1, h⟩ := Option.bind_eq_some_iff.1 h
  refine Wk_regionZ fun Z hZ => ?_
  simp only [go_sem, seval, hr1]
  refine hZ _ (pp (Wk_cond_nbool rfl (fun hc2 => ?_) (fun hc2 => ?_)))
  · rw [if_neg (ne_true_of_eq_false hc2)] at h
    refine Wk_seq (Wk_regionZ fun Z hZ => ?_)
    simp only [go_sem, seval, hc2]
    refine hZ _ (pp (Wk_ret (pp ?_)))
    cases h
    simp only [go_sem, seval]
    exact ⟨_, rfl, RokI.h, PureI.h⟩
  rw [if_pos hc2] at h
  refine Wk_skip (pp (Wk_seq (Wk_regionZ fun Z hZ => ?_)))
  simp only [go_sem, seval, hc2]
  refine hZ _ (pp (Wk_ret (pp ?_)))
  cases h
  simp only [go_sem, seval]
  exact ⟨_, rfl, RokI.h, PureI.h⟩
def fs_streams_End (N : Nat) : FnS := ⟨[], true, fn1 Topic.decA fun q0 => (streams_End N q0).map fun r => .val (.int .i64 r), false⟩
attribute [go_sem] fs_streams_End
theorem fs_streams_End_ok (N : Nat) : FSOk Try.prog 17 (fs_streams_End N) := ok1 (fun q0 r h => by
  obtain ⟨r', hr, rfl⟩ := Option.map_eq_some_iff.1 h
  exact w_streams_End N q0 r' hr) (Topic.decA_le)


theorem w_slices_Clone_int_nn (N : Nat) (a0 : (List Int)) (r : (List Int)) (h : slices_Clone_int N a0 = some r) : Con Try.prog 38 [] true [.sl false (some false) 1 none (a0.map (rowI .i64))] (.sl true none 1 none (r.map (rowI .i64))) := by
  refine fun_ok4 (G := (glist [])) Try.func38 rfl (by decide) (by kernel_rfl) gn [] mix (Nat.le_of_ble_eq_true rfl) ?_
  simp only [Try.f38]
  unfold slices_Clone_int at h
  refine Wk_seq (Wk_regionZ fun Z hZ => ?_)
  simp only [go_sem, seval]
  refine hZ _ (pp (Wk_seq (Wk_seq (Wk_regionZ fun Z hZ => ?_))))
  simp only [go_sem, seval]
  refine hZ _ (pp (Wk_cond_f rfl ?_))
  first | rw [if_pos (rfl : true = true)] at h | rw [if_neg Bool.false_ne_true] at h | skip
  refine Wk_skip (pp (Wk_seq ?_))
  first | obtain ⟨ha1, h⟩ := apn_some h | (obtain ⟨ha1, h⟩ := apx_some h; rw [List.nil_append] at h)
  simp only [Nat.reduceAdd] at ha1
  refine Wk_regionZ fun Z hZ => ?_
  simp only [go_sem, seval, ha1]
  refine hZ _ (pp (Wk_ret (pp ?_)))
  cases h
  simp only [go_sem, seval]
  exact ⟨_, rfl, RokI.h, PureI.h⟩
theorem w_slices_Clone_int_nil (N : Nat)  (r : (List Int)) (h : slices_Clone_int N [] = some r) : Con Try.prog 38 [] true [.val (.slice none 0 0)] (.sl true none 1 none (r.map (rowI .i64))) := by
  refine fun_ok4 (G := (glist [])) Try.func38 rfl (by decide) (by kernel_rfl) gn [] mix (Nat.le_of_ble_eq_true rfl) ?_
  simp only [Try.f38]
  unfold slices_Clone_int at h
  refine Wk_seq (Wk_regionZ fun Z hZ => ?_)
  simp only [go_sem, seval]
  refine hZ _ (pp (Wk_seq (Wk_seq (Wk_regionZ fun Z hZ => ?_))))
  simp only [go_sem, seval]
  refine hZ _ (pp (Wk_cond_t rfl ?_))
  first | rw [if_pos (rfl : true = true)] at h | rw [if_neg Bool.false_ne_true] at h | skip
  refine Wk_seq (Wk_regionZ fun Z hZ => ?_)
  simp only [go_sem, seval]
  refine hZ _ (pp (Wk_ret (pp ?_)))
  obtain rfl : r = [] := by simpa [apn] using h.symm
  simp only [go_sem, seval]
  exact ⟨_, rfl, RokI.h, PureI.h⟩
theorem w_slices_Clone_int (N : Nat) (a0 : (List Int)) (r : (List Int)) (h : slices_Clone_int N a0 = some r) : Con Try.prog 38 [] true [.sl false none 1 none (a0.map (rowI .i64))] (.sl true none 1 none (r.map (rowI .i64))) :=
  Con_nl (fun e => by obtain rfl : a0 = [] := List.map_eq_nil_iff.1 e; exact w_slices_Clone_int_nil N r h) (w_slices_Clone_int_nn N a0 r h)
def fs_slices_Clone_int (N : Nat) : FnS := ⟨[], true, fn1 (decL 1 (dec1 (decI .i64))) fun q0 => (slices_Clone_int N q0).map fun r => .sl false none 1 none (r.map (rowI .i64)), false⟩
attribute [go_sem] fs_slices_Clone_int
theorem fs_slices_Clone_int_ok (N : Nat) : FSOk Try.prog 38 (fs_slices_Clone_int N) := ok1 (fun q0 r h => by
  obtain ⟨r', hr, rfl⟩ := Option.map_eq_some_iff.1 h
  exact (w_slices_Clone_int N q0 r' hr).res (by (try simp only [go_sem]); exact RokI.h)) (fun h => decL_le (decI1_le .i64) h)

def fso_slices_Clone_int (N : Nat) : FnS := ⟨[], true, fn1 (decL 1 (dec1 (decI .i64))) fun q0 => (slices_Clone_int N q0).map fun r => .sl true none 1 none (r.map (rowI .i64)), false⟩
attribute [go_sem] fso_slices_Clone_int
theorem fso_slices_Clone_int_ok (N : Nat) : FSOk Try.prog 38 (fso_slices_Clone_int N) := ok1 (fun q0 r h => by
  obtain ⟨r', hr, rfl⟩ := Option.map_eq_some_iff.1 h
  exact w_slices_Clone_int N q0 r' hr) (fun h => decL_le (decI1_le .i64) h)


theorem w_slices_Clone_Sub_nn (N : Nat) (a0 : (List Sub)) (r : (List Sub)) (h : slices_Clone_Sub N a0 = some r) : Con Try.prog 39 [] true [.sl false (some false) 4 none (a0.map Sub.row)] (.sl true none 4 none (r.map Sub.row)) := by
  refine fun_ok4 (G := (glist [])) Try.func39 rfl (by decide) (by kernel_rfl) gn [] mix (Nat.le_of_ble_eq_true rfl) ?_
  simp only [Try.f39]
  unfold slices_Clone_Sub at h
  refine Wk_seq (Wk_regionZ fun Z hZ => ?_)
  simp only [go_sem, seval]
  refine hZ _ (pp (Wk_seq (Wk_seq (Wk_regionZ fun Z hZ => ?_))))
  simp only [go_sem, seval]
  refine hZ _ (pp (Wk_cond_f rfl ?_))
  first | rw [if_pos (rfl : true = true)] at h | rw [if_neg Bool.false_ne_true] at h | skip
  refine Wk_skip (pp (Wk_seq ?_))
  first | obtain ⟨ha1, h⟩ := apn_some h | (obtain ⟨ha1, h⟩ := apx_some h; rw [List.nil_append] at h)
  simp only [Nat.reduceAdd] at ha1
  refine Wk_regionZ fun Z hZ => ?_
  simp only [go_sem, seval, ha1]
  refine hZ _ (pp (Wk_ret (pp ?_)))
  cases h
  simp only [go_sem, seval]
  exact ⟨_, rfl, RokI.h, PureI.h⟩
theorem w_slices_Clone_Sub_nil (N : Nat)  (r : (List Sub)) (h : slices_Clone_Sub N [] = some r) : Con Try.prog 39 [] true [.val (.slice none 0 0)] (.sl true none 4 none (r.map Sub.row)) := by
  refine fun_ok4 (G := (glist [])) Try.func39 rfl (by decide) (by kernel_rfl) gn [] mix (Nat.le_of_ble_eq_true rfl) ?_
  simp only [Try.f39]
  unfold slices_Clone_Sub at h
  refine Wk_seq (Wk_regionZ fun Z hZ => ?_)
  simp only [go_sem, seval]
  refine hZ _ (pp (Wk_seq (Wk_seq (Wk_regionZ fun Z hZ => ?_))))
  simp only [go_sem, seval]
  refine hZ _ (pp (Wk_cond_t rfl ?_))
  first | rw [if_pos (rfl : true = true)] at h | rw [if_neg Bool.false_ne_true] at h | skip
  refine Wk_seq (Wk_regionZ fun Z hZ => ?_)
  simp only [go_sem, seval]
  refine hZ _ (pp (Wk_ret (pp ?_)))
  obtain rfl : r = [] := by simpa [apn] using h.symm
  simp only [go_sem, seval]
  exact ⟨_, rfl, RokI.h, PureI.h⟩
theorem w_slices_Clone_Sub (N : Nat) (a0 : (List Sub)) (r : (List Sub)) (h : slices_Clone_Sub N a0 = some r) : Con Try.prog 39 [] true [.sl false none 4 none (a0.map Sub.row)] (.sl true none 4 none (r.map Sub.row)) :=
  Con_nl (fun e => by obtain rfl : a0 = [] := List.map_eq_nil_iff.1 e; exact w_slices_Clone_Sub_nil N r h) (w_slices_Clone_Sub_nn N a0 r h)
def fs_slices_Clone_Sub (N : Nat) : FnS := ⟨[], true, fn1 (decL 4 Sub.dec) fun q0 => (slices_Clone_Sub N q0).map fun r => .sl false none 4 none (r.map Sub.row), false⟩
attribute [go_sem] fs_slices_Clone_Sub
theorem fs_slices_Clone_Sub_ok (N : Nat) : FSOk Try.prog 39 (fs_slices_Clone_Sub N) := ok1 (fun q0 r h => by
  obtain ⟨r', hr, rfl⟩ := Option.map_eq_some_iff.1 h
  exact (w_slices_Clone_Sub N q0 r' hr).res (by (try simp only [go_sem]); exact RokI.h)) (fun h => decL_le Sub.dec_le h)

def fso_slices_Clone_Sub (N : Nat) : FnS := ⟨[], true, fn1 (decL 4 Sub.dec) fun q0 => (slices_Clone_Sub N q0).map fun r => .sl true none 4 none (r.map Sub.row), false⟩
attribute [go_sem] fso_slices_Clone_Sub
theorem fso_slices_Clone_Sub_ok (N : Nat) : FSOk Try.prog 39 (fso_slices_Clone_Sub N) := ok1 (fun q0 r h => by
  obtain ⟨r', hr, rfl⟩ := Option.map_eq_some_iff.1 h
  exact w_slices_Clone_Sub N q0 r' hr) (fun h => decL_le Sub.dec_le h)


noncomputable def G_streams_clone (N d f : Nat) : Option FnS := glist [(5, 38, fso_slices_Clone_int N), (8, 39, fso_slices_Clone_Sub N)] d f
attribute [go_sem] G_streams_clone
theorem w_streams_clone (N : Nat) (a0 : Topic) (r : Topic) (h : streams_clone N a0 = some r) : Con Try.prog 28 [] true [.agg (Topic.row a0)] (.agg [.val (.string r.Name), .val (.int .i64 r.First), .sl true none 1 none (r.Events.map (rowI .i64)), .sl true none 4 none (r.Subs.map Sub.row)]) := by
  refine fun_ok4 (G := (G_streams_clone N)) Try.func28 rfl (by decide) (by kernel_rfl) (gc 5 (fso_slices_Clone_int_ok N) (gc 8 (fso_slices_Clone_Sub_ok N) gn)) [] mix (Nat.le_of_ble_eq_true rfl) ?_
  simp only [Try.f28]
  unfold streams_clone at h
  refine Wk_seq (Wk_regionZ fun Z hZ => ?_)
  simp only [go_sem, seval]
  refine hZ _ (pp (Wk_seq ?_))
  obtain ⟨r1, hr1, h⟩ := Option.bind_eq_some_iff.1 h
  obtain ⟨r2, hr2, h⟩ := Option.bind_eq_some_iff.1 h
  refine Wk_regionD fun Z hZ => ?_
  simp only [go_sem, seval, hr1, hr2]
  repeat with_reducible refine and_bar (by kernel_rfl) ?_
  refine hZ _ (by kernel_rfl) (pp (Wk_seq (Wk_regionZ fun Z hZ => ?_)))
  simp only [go_sem, seval]
  refine hZ _ (pp (Wk_ret (pp ?_)))
  cases h
  simp only [go_sem, seval]
  exact ⟨_, rfl, RokI.h, PureI.h⟩
def fs_streams_clone (N : Nat) : FnS := ⟨[], true, fn1 Topic.decA fun q0 => (streams_clone N q0).map fun r => .agg (Topic.row r), false⟩
attribute [go_sem] fs_streams_clone
theorem fs_streams_clone_ok (N : Nat) : FSOk Try.prog 28 (fs_streams_clone N) := ok1 (fun q0 r h => by
  obtain ⟨r', hr, rfl⟩ := Option.map_eq_some_iff.1 h
  exact (w_streams_clone N q0 r' hr).res (by (try simp only [go_sem]); exact RokI.h)) (Topic.decA_le)

def fso_streams_clone (N : Nat) : FnS := ⟨[], true, fn1 Topic.decA fun q0 => (streams_clone N q0).map fun r => .agg [.val (.string r.Name), .val (.int .i64 r.First), .sl true none 1 none (r.Events.map (rowI .i64)), .sl true none 4 none (r.Subs.map Sub.row)], false⟩
attribute [go_sem] fso_streams_clone
theorem fso_streams_clone_ok (N : Nat) : FSOk Try.prog 28 (fso_streams_clone N) := ok1 (fun q0 r h => by
  obtain ⟨r', hr, rfl⟩ := Option.map_eq_some_iff.1 h
  exact w_streams_clone N q0 r' hr) (Topic.decA_le)


def fs_overlaps_slices_Insert_Sub : FnS := { own := [true, true], pure := false, fn := fun _ => none, peek := true }
theorem fs_overlaps_slices_Insert_Sub_own : fs_overlaps_slices_Insert_Sub.own = [true, true] := rfl
theorem fs_overlaps_slices_Insert_Sub_peek : fs_overlaps_slices_Insert_Sub.peek = true := rfl
theorem overlaps_slices_Insert_Sub : PeekOk Try.prog 40 :=
  peek_of (fn := Try.f40) (tS := 25) (tR := 4) (e := 54) (size := 4) Try.func40 rfl rfl (by kernel_rfl) (by kernel_rfl) (by kernel_rfl) (by kernel_rfl)
theorem fs_overlaps_slices_Insert_Sub_ok : FSOk Try.prog 40 fs_overlaps_slices_Insert_Sub := ⟨(fun cs r h => by simp [fs_overlaps_slices_Insert_Sub] at h), fun _ => overlaps_slices_Insert_Sub⟩
noncomputable def E_slices_Insert_Sub : Env := { T := tiOf Try.prog, G := fun d f => if d = 67 ∧ f = 40 then some fs_overlaps_slices_Insert_Sub else none }
theorem E_slices_Insert_Sub_T : E_slices_Insert_Sub.T = tiOf Try.prog := rfl
theorem E_slices_Insert_Sub_F (d : Nat) : E_slices_Insert_Sub.F d = none := rfl
theorem E_slices_Insert_Sub_L (d f : Nat) : E_slices_Insert_Sub.L d f = none := rfl
theorem E_slices_Insert_Sub_G : E_slices_Insert_Sub.G 67 40 = some fs_overlaps_slices_Insert_Sub := rfl
theorem E_slices_Insert_Sub_ok : GOk Try.prog { T := tiOf Try.prog, G := E_slices_Insert_Sub.G } := by
  refine ⟨?_, fun _ _ _ h => by cases h⟩
  intro d f fs hfs
  simp only [E_slices_Insert_Sub] at hfs
  split at hfs
  · rename_i hc; obtain ⟨rfl, rfl⟩ := hc; obtain rfl := Option.some.inj hfs; exact fs_overlaps_slices_Insert_Sub_ok
  cases hfs
theorem fo_slices_Insert_Sub : FunOk Try.prog 31 Try.f31 Try.f31.body.get! := ⟨Try.func31, rfl, by decide, by kernel_rfl⟩
set_option maxHeartbeats 4000000 in
theorem w1_slices_Insert_Sub {α : Type} (row : α → List C) (ok : RowOk row) (l : List α) (i : Nat) (x : α) (k : Nat) (r : List α) (hr : r = l.take i ++ [x] ++ l.drop i) (hi : i ≤ l.length) (hsz : (l.length + 1) * 56 ≤ 140737488355328) (hk1 : l.length ≤ k) (hk2 : k ≤ maxLen) :
    Con Try.prog 31 [true, false, true] false [.sl true none 4 (some k) (l.map row), .val (.int .i64 i), .sl true none 4 none ([x].map row)] (.sl true none 4 none (r.map row)) := by
  refine fun_own (E := E_slices_Insert_Sub) (tiOf_ok Try.prog _) E_slices_Insert_Sub_ok mix fo_slices_Insert_Sub (Nat.le_of_ble_eq_true rfl) ?_
  intro _
  rw [entry_tab (by simp)]
  rw [show entryF [true, false, true] [C.sl true none 4 (some k) (l.map row), C.val (.int .i64 i), C.sl true none 4 none ([x].map row)] = (updT (updT (updT deadT 0 (.pal 0 [] 0 l.length none)) 1 (.val (.int .i64 i))) 2 (.pal 2 [] 0 1 none)) from by funext t; match t with | 0 => simp [entryF, entryTmp, viewD, updT] | 1 => rfl | 2 => rfl | t + 3 => rfl]
  rw [show R0 [true, false, true] [C.sl true none 4 (some k) (l.map row), C.val (.int .i64 i), C.sl true none 4 none ([x].map row)] = upd (upd RZ 0 (C.sl true none 4 (some k) (l.map row))) 2 (C.sl true none 4 none ([x].map row)) from by funext t; match t with | 0 => rfl | 1 => rfl | 2 => rfl | t + 3 => rfl]
  apply W_start
  simp only [Try.f31, Option.get!]
  have hi1 : (i : Int) ≤ (l.length : Int) := by omega
  have hi2 : i ≤ l.length := hi
  have h10 : (((1 : Nat) : Int) = 0) = False := by simp
  have hp : (row x).all Abs.plainCell = true := ok.plain x
  have hf : (row x).map C.frz = (row x) := ok.frz x
  have hpD : (row x).all plainD = true := by have := (RowOk.allD ok [x]); simpa using this
  have hw1 : IntKind.i64.wrap ((l.length : Int) + ((1 : Nat) : Int)) = ((l.length + 1 : Nat) : Int) := by rw [wrap64_in (by omega) (by omega)]; rfl
  have hlt0 : (l.take i).length = i := by simp; omega
  have hes : (4 != 0) = true := rfl
  have hm1 : min 1 (l.length + 1 - i) = 1 := by omega
  have hm2 : min (l.length - i) (l.length + 1 - (i + 1)) = l.length - i := by omega
  have hm3 : (l.drop i).take (l.length - i) = l.drop i := List.take_of_length_le (by simp)
  have hm4 : i + 1 ≤ l.length + 1 := by omega
  have hw2 : IntKind.i64.wrap (((l.length + 1 : Nat) : Int) - (i : Int)) = ((l.length + 1 - i : Nat) : Int) := by rw [wrap64_in (by omega) (by omega)]; omega
  have hw1b : IntKind.i64.wrap ((l.length : Int) + 1) = ((l.length + 1 : Nat) : Int) := hw1
  have hw3 : IntKind.i64.wrap ((i : Int) + ((1 : Nat) : Int)) = ((i + 1 : Nat) : Int) := by rw [wrap64_in (by omega) (by omega)]; rfl
  have hw3b : IntKind.i64.wrap ((i : Int) + 1) = ((i + 1 : Nat) : Int) := hw3
  simp only [go_sem, seval, E_slices_Insert_Sub_T, E_slices_Insert_Sub_F, E_slices_Insert_Sub_L, E_slices_Insert_Sub_G, hi1, hi2, h10, Nat.le_refl, hp, hf, hpD, RowOk.frzRows ok, RowOk.all ok, RowOk.allPlain ok, RowOk.allD ok, rewritten, RX_cap, RX_copy, altX, roomS, roomC, cutC, copyX, resliceX, appendNewX, extOf, Ext.all, peekX, isOwnRoot, Option.map_some, hw1, hw2, hw3, hw1b, hw3b, Nat.min_self, Nat.zero_le, Nat.sub_zero, deepV, bne_self_eq_false, List.isEmpty_nil, decide_not, List.length_replicate, hlt0, hm1, hm2, hm3, hm4, fs_overlaps_slices_Insert_Sub_own, fs_overlaps_slices_Insert_Sub_peek, Nat.not_succ_le_self]
  refine W_cond_f rfl ?_
  simp only [go_sem, seval, E_slices_Insert_Sub_T, E_slices_Insert_Sub_F, E_slices_Insert_Sub_L, E_slices_Insert_Sub_G, hi1, hi2, h10, Nat.le_refl, hp, hf, hpD, RowOk.frzRows ok, RowOk.all ok, RowOk.allPlain ok, RowOk.allD ok, rewritten, RX_cap, RX_copy, altX, roomS, roomC, cutC, copyX, resliceX, appendNewX, extOf, Ext.all, peekX, isOwnRoot, Option.map_some, hw1, hw2, hw3, hw1b, hw3b, Nat.min_self, Nat.zero_le, Nat.sub_zero, deepV, bne_self_eq_false, List.isEmpty_nil, decide_not, List.length_replicate, hlt0, hm1, hm2, hm3, hm4, fs_overlaps_slices_Insert_Sub_own, fs_overlaps_slices_Insert_Sub_peek, Nat.not_succ_le_self]
  refine W_cond_dec rfl (fun hc => ?_) (fun hc => ?_)
  · have e : i = l.length := by omega
    subst e
    simp only [go_sem, seval, E_slices_Insert_Sub_T, E_slices_Insert_Sub_F, E_slices_Insert_Sub_L, E_slices_Insert_Sub_G, hi1, hi2, h10, Nat.le_refl, hp, hf, hpD, RowOk.frzRows ok, RowOk.all ok, RowOk.allPlain ok, RowOk.allD ok, rewritten, RX_cap, RX_copy, altX, roomS, roomC, cutC, copyX, resliceX, appendNewX, extOf, Ext.all, peekX, isOwnRoot, Option.map_some, hw1, hw2, hw3, hw1b, hw3b, Nat.min_self, Nat.zero_le, Nat.sub_zero, deepV, bne_self_eq_false, List.isEmpty_nil, decide_not, List.length_replicate, hlt0, hm1, hm2, hm3, hm4, fs_overlaps_slices_Insert_Sub_own, fs_overlaps_slices_Insert_Sub_peek, Nat.not_succ_le_self, FinO_ret, FinO_normal, hsz]
    refine fin_own ok ?_
    rw [hr]
    simp [List.take_of_length_le]
  · have hc1 : decide ((i : Int) = (l.length : Int)) = false := decide_eq_false hc
    have hlt : i < l.length := by omega
    simp only [go_sem, seval, E_slices_Insert_Sub_T, E_slices_Insert_Sub_F, E_slices_Insert_Sub_L, E_slices_Insert_Sub_G, hi1, hi2, h10, Nat.le_refl, hp, hf, hpD, RowOk.frzRows ok, RowOk.all ok, RowOk.allPlain ok, RowOk.allD ok, rewritten, RX_cap, RX_copy, altX, roomS, roomC, cutC, copyX, resliceX, appendNewX, extOf, Ext.all, peekX, isOwnRoot, Option.map_some, hw1, hw2, hw3, hw1b, hw3b, Nat.min_self, Nat.zero_le, Nat.sub_zero, deepV, bne_self_eq_false, List.isEmpty_nil, decide_not, List.length_replicate, hlt0, hm1, hm2, hm3, hm4, fs_overlaps_slices_Insert_Sub_own, fs_overlaps_slices_Insert_Sub_peek, Nat.not_succ_le_self, hc1]
    refine W_cond_dec rfl (fun hk => ?_) (fun hk => ?_)
    · have hk1 : decide (k < l.length + 1) = true := decide_eq_true hk
      have hk2 : k < i + (l.length + 1 - i) := by omega
      have e1 : i + (l.length + 1 - i) = l.length + 1 := by omega
      have hi3 : (i : Int) ≤ ((l.length + 1 : Nat) : Int) := by omega
      have hi4 : i ≤ l.length + 1 := by omega
      obtain ⟨A, hA⟩ : ∃ A, List.map row (List.take i l) ++ List.replicate (l.length + 1 - i) [C.val (Value.string ⟨#[]⟩), C.val (Value.string ⟨#[]⟩), C.val (Value.string ⟨#[]⟩), C.val (Value.int .i64 0)] = A := ⟨_, rfl⟩
      have hAp : plainL' A := by rw [← hA]; exact plainL'_append (plainL'_map ok _) (plainL'_vals _ [Value.string ⟨#[]⟩, Value.string ⟨#[]⟩, Value.string ⟨#[]⟩, Value.int .i64 0] (by simp [Value.oneCell']))
      have hAl : A.length = l.length + 1 := by rw [← hA, List.length_append, List.length_map, hlt0, List.length_replicate]; omega
      obtain ⟨B, hB⟩ : ∃ B, setRows A i [(row x)] = B := ⟨_, rfl⟩
      have hBp : plainL' B := by rw [← hB]; exact plainL'_set hAp ⟨by simp [frzRows, hf], by simp [hpD]⟩
      have hBl : B.length = l.length + 1 := by rw [← hB]; simp [setRows, hAl]; omega
      obtain ⟨D, hD⟩ : ∃ D, setRows B (i + 1) (List.map row (List.drop i l)) = D := ⟨_, rfl⟩
      have hDp : plainL' D := by rw [← hD]; exact plainL'_set hBp (plainL'_map ok _)
      have hDl : D.length = l.length + 1 := by rw [← hD]; simp [setRows, hBl]; omega
      have hDe : D = (l.take i ++ [x] ++ l.drop i).map row := by
        rw [← hD, ← hB, ← hA, List.map_take, List.map_drop, ins_new (A := l.map row) (n := l.length) (by simp) hi2 (by simp)]
        simp
      simp only [go_sem, seval, E_slices_Insert_Sub_T, E_slices_Insert_Sub_F, E_slices_Insert_Sub_L, E_slices_Insert_Sub_G, hi1, hi2, h10, Nat.le_refl, hp, hf, hpD, RowOk.frzRows ok, RowOk.all ok, RowOk.allPlain ok, RowOk.allD ok, rewritten, RX_cap, RX_copy, altX, roomS, roomC, cutC, copyX, resliceX, appendNewX, extOf, Ext.all, peekX, isOwnRoot, Option.map_some, hw1, hw2, hw3, hw1b, hw3b, Nat.min_self, Nat.zero_le, Nat.sub_zero, deepV, bne_self_eq_false, List.isEmpty_nil, decide_not, List.length_replicate, hlt0, hm1, hm2, hm3, hm4, fs_overlaps_slices_Insert_Sub_own, fs_overlaps_slices_Insert_Sub_peek, Nat.not_succ_le_self, hc1, hk1, hk, hk2, e1, hi3, hi4, hA, hAl, hAp.1, hAp.2, hB, hBp.1, hBp.2, hBl, hD, hDp.1, hDp.2, hsz]
      repeat' ((with_reducible refine and_bar ?_ ?_); kernel_rfl)
      simp only [go_sem, seval, E_slices_Insert_Sub_T, E_slices_Insert_Sub_F, E_slices_Insert_Sub_L, E_slices_Insert_Sub_G, hi1, hi2, h10, Nat.le_refl, hp, hf, hpD, RowOk.frzRows ok, RowOk.all ok, RowOk.allPlain ok, RowOk.allD ok, rewritten, RX_cap, RX_copy, altX, roomS, roomC, cutC, copyX, resliceX, appendNewX, extOf, Ext.all, peekX, isOwnRoot, Option.map_some, hw1, hw2, hw3, hw1b, hw3b, Nat.min_self, Nat.zero_le, Nat.sub_zero, deepV, bne_self_eq_false, List.isEmpty_nil, decide_not, List.length_replicate, hlt0, hm1, hm2, hm3, hm4, fs_overlaps_slices_Insert_Sub_own, fs_overlaps_slices_Insert_Sub_peek, Nat.not_succ_le_self, FinO_ret, FinO_normal, hDp.1, hDp.2, hD]
      refine fin_own ok ?_
      rw [hr, ← hDe, ← hDl, List.take_length]
    · have hk1 : decide (k < l.length + 1) = false := decide_eq_false hk
      have hk2 : ¬ k < i + (l.length + 1 - i) := by omega
      have hk3 : l.length + 1 ≤ k := by omega
      have e2 : l.length + 1 - l.length = 1 := by omega
      have e3 : l.length ≤ l.length + 1 := by omega
      have hi3 : (i : Int) ≤ ((l.length + 1 : Nat) : Int) := by omega
      have hi4 : i ≤ l.length + 1 := by omega
      have hne : ¬ l.length + 1 - (i + 1) = 0 := by omega
      have hne2 : ¬ l.length - i = 0 := by omega
      obtain ⟨A, hA⟩ : ∃ A, List.map row l ++ [[C.dead, C.dead, C.dead, C.dead]] = A := ⟨_, rfl⟩
      have hAp : plainL' A := by rw [← hA]; exact plainL'_append (plainL'_map ok _) (plainL'_dead 1 4)
      have hAl : A.length = l.length + 1 := by rw [← hA]; simp
      have hm5 : min (l.length + 1 - i) (l.length + 1 - (i + 1)) = l.length - i := by omega
      have hm5b : min (l.length + 1 - i) (l.length - i) = l.length - i := by omega
      obtain ⟨A2, hA2⟩ : ∃ A2, (A.drop i).take (l.length - i) = A2 := ⟨_, rfl⟩
      have hA2e : A2 = List.map row (l.drop i) := by
        rw [← hA2, ← hA, List.drop_append, List.length_map, show i - l.length = 0 by omega, List.drop_zero, List.take_append, List.take_of_length_le (by simp), show l.length - i - (List.drop i (List.map row l)).length = 0 by simp]
        simp [List.map_drop]
      have hA2p : (A2.all fun r => r.all Abs.plainCell) = true := by rw [hA2e]; exact ok.allPlain _
      have hA2f : frzRows A2 = A2 := by rw [hA2e]; exact ok.frzRows _
      have hA2d : plainL' A2 := by rw [hA2e]; exact plainL'_map ok _
      obtain ⟨B, hB⟩ : ∃ B, setRows A (i + 1) A2 = B := ⟨_, rfl⟩
      have hBp : plainL' B := by rw [← hB]; exact plainL'_set hAp hA2d
      have hBl : B.length = l.length + 1 := by rw [← hB]; simp [setRows, hAl, hA2e]; omega
      obtain ⟨D, hD⟩ : ∃ D, setRows B i [(row x)] = D := ⟨_, rfl⟩
      have hDp : plainL' D := by rw [← hD]; exact plainL'_set hBp ⟨by simp [frzRows, hf], by simp [hpD]⟩
      have hDl : D.length = l.length + 1 := by rw [← hD]; simp [setRows, hBl]; omega
      have hDe : D = (l.take i ++ [x] ++ l.drop i).map row := by
        rw [← hD, ← hB, ← hA2, ← hA, ins_here (A := l.map row) (n := l.length) (by simp) hi2]
        simp [List.map_take, List.map_drop]
      simp only [go_sem, seval, E_slices_Insert_Sub_T, E_slices_Insert_Sub_F, E_slices_Insert_Sub_L, E_slices_Insert_Sub_G, hi1, hi2, h10, Nat.le_refl, hp, hf, hpD, RowOk.frzRows ok, RowOk.all ok, RowOk.allPlain ok, RowOk.allD ok, rewritten, RX_cap, RX_copy, altX, roomS, roomC, cutC, copyX, resliceX, appendNewX, extOf, Ext.all, peekX, isOwnRoot, Option.map_some, hw1, hw2, hw3, hw1b, hw3b, Nat.min_self, Nat.zero_le, Nat.sub_zero, deepV, bne_self_eq_false, List.isEmpty_nil, decide_not, List.length_replicate, hlt0, hm1, hm2, hm3, hm4, fs_overlaps_slices_Insert_Sub_own, fs_overlaps_slices_Insert_Sub_peek, Nat.not_succ_le_self, hc1, hk1, hk, hk2, hk3, e2, e3, hi3, hi4, hne, hne2, hA, hAl, hAp.1, hAp.2, hes, hA2, hA2p, hA2f, hB, hBp.1, hBp.2, hBl, hD, hDp.1, hDp.2, hDl, hm5, hm5b]
      refine W_cond_t rfl ?_
      simp only [go_sem, seval, E_slices_Insert_Sub_T, E_slices_Insert_Sub_F, E_slices_Insert_Sub_L, E_slices_Insert_Sub_G, hi1, hi2, h10, Nat.le_refl, hp, hf, hpD, RowOk.frzRows ok, RowOk.all ok, RowOk.allPlain ok, RowOk.allD ok, rewritten, RX_cap, RX_copy, altX, roomS, roomC, cutC, copyX, resliceX, appendNewX, extOf, Ext.all, peekX, isOwnRoot, Option.map_some, hw1, hw2, hw3, hw1b, hw3b, Nat.min_self, Nat.zero_le, Nat.sub_zero, deepV, bne_self_eq_false, List.isEmpty_nil, decide_not, List.length_replicate, hlt0, hm1, hm2, hm3, hm4, fs_overlaps_slices_Insert_Sub_own, fs_overlaps_slices_Insert_Sub_peek, Nat.not_succ_le_self, hc1, hk1, hk, hk2, hk3, e2, e3, hi3, hi4, hne, hne2, hA, hAl, hAp.1, hAp.2, hes, hA2, hA2p, hA2f, hB, hBp.1, hBp.2, hBl, hD, hDp.1, hDp.2, hDl, hm5, hm5b]
      repeat' ((with_reducible refine and_bar ?_ ?_); kernel_rfl)
      simp only [go_sem, seval, E_slices_Insert_Sub_T, E_slices_Insert_Sub_F, E_slices_Insert_Sub_L, E_slices_Insert_Sub_G, hi1, hi2, h10, Nat.le_refl, hp, hf, hpD, RowOk.frzRows ok, RowOk.all ok, RowOk.allPlain ok, RowOk.allD ok, rewritten, RX_cap, RX_copy, altX, roomS, roomC, cutC, copyX, resliceX, appendNewX, extOf, Ext.all, peekX, isOwnRoot, Option.map_some, hw1, hw2, hw3, hw1b, hw3b, Nat.min_self, Nat.zero_le, Nat.sub_zero, deepV, bne_self_eq_false, List.isEmpty_nil, decide_not, List.length_replicate, hlt0, hm1, hm2, hm3, hm4, fs_overlaps_slices_Insert_Sub_own, fs_overlaps_slices_Insert_Sub_peek, Nat.not_succ_le_self, FinO_ret, FinO_normal, hDp.1, hDp.2, hD, hDl]
      refine fin_own ok ?_
      rw [hr, ← hDe, ← hDl, List.take_length]
theorem w_slices_Insert_Sub (N : Nat) (a0 : List Sub) (a1 : Int) (a2 : List Sub) (r : List Sub) (h : slices_Insert_Sub N a0 a1 a2 = some r) :
    Con Try.prog 31 [true, false, true] false [.sl true none 4 none (a0.map Sub.row), .val (.int .i64 a1), .sl true none 4 none (a2.map Sub.row)] (.sl true none 4 none (r.map Sub.row)) := by
  unfold slices_Insert_Sub at h
  obtain ⟨n, x, rfl, rfl, h1, h2, h3⟩ := insM_some h
  exact Con_cap fun k hk1 hk2 => w1_slices_Insert_Sub Sub.row Sub.row_ok a0 n x k r (Option.some.inj h3).symm h1 h2 (by simpa using hk1) hk2
def fso_slices_Insert_Sub (N : Nat) : FnS := { own := [true, false, true], pure := false, fn := fun cs => match cs with
  | [c0, c1, c2] => (decO 4 Sub.dec c0).bind fun q0 => (decI .i64 c1).bind fun q1 => (decO 4 Sub.dec c2).bind fun q2 => (slices_Insert_Sub N q0 q1 q2).map fun r => .sl true none 4 none (r.map Sub.row)
  | _ => none }
theorem fso_slices_Insert_Sub_own (N : Nat) : (fso_slices_Insert_Sub N).own = [true, false, true] := rfl
theorem fso_slices_Insert_Sub_pure (N : Nat) : (fso_slices_Insert_Sub N).pure = false := rfl
theorem fso_slices_Insert_Sub_peek (N : Nat) : (fso_slices_Insert_Sub N).peek = false := rfl
attribute [go_sem] fso_slices_Insert_Sub fso_slices_Insert_Sub_own fso_slices_Insert_Sub_pure fso_slices_Insert_Sub_peek
theorem fso_slices_Insert_Sub_ok (N : Nat) : FSOk Try.prog 31 (fso_slices_Insert_Sub N) := by
  refine ⟨fun cs r h => ?_, fun h => by cases h⟩
  simp only [fso_slices_Insert_Sub] at h
  split at h
  · simp only [Option.bind_eq_some_iff, Option.map_eq_some_iff] at h
    obtain ⟨q0, h0, q1, h1, q2, h2, r', hr, rfl⟩ := h
    exact (w_slices_Insert_Sub N q0 q1 q2 r' hr).argsO rfl (argsO_own (decO_ok Sub.row_ok Sub.dec_le h0) (argsO_le (decI_le h1) (argsO_own (decO_ok Sub.row_ok Sub.dec_le h2) argsO_nil)))
  · cases h


noncomputable def G_streams_Subscribe (N d f : Nat) : Option FnS := glist [(12, 19, fs_streams_Valid N), (17, 29, fs_streams_validKey N), (25, 30, fs_streams_find N), (38, 17, fs_streams_End N), (40, 28, fso_streams_clone N), (49, 31, fso_slices_Insert_Sub N)] d f
attribute [go_sem] G_streams_Subscribe
theorem w_streams_Subscribe (N : Nat) (a0 : Topic) (a1 : Ref) (a2 : ByteArray) (r : Topic × Int) (h : streams_Subscribe N a0 a1 a2 = some r) : Con Try.prog 11 [] true [.agg (Topic.row a0), .agg [.val (.string a1.Type_), .val (.string a1.Key)], .val (.string a2)] (.tup [.agg [.val (.string r.1.Name), .val (.int .i64 r.1.First), .sl true none 1 none (r.1.Events.map (rowI .i64)), .sl true none 4 none (r.1.Subs.map Sub.row)], .val (.int .i64 r.2)]) := by
  refine fun_ok4 (G := (G_streams_Subscribe N)) Try.func11 rfl (by decide) (by kernel_rfl) (gc 12 (fs_streams_Valid_ok N) (gc 17 (fs_streams_validKey_ok N) (gc 25 (fs_streams_find_ok N) (gc 38 (fs_streams_End_ok N) (gc 40 (fso_streams_clone_ok N) (gc 49 (fso_slices_Insert_Sub_ok N) gn)))))) [] mix (Nat.le_of_ble_eq_true rfl) ?_
  simp only [Try.f11]
  unfold streams_Subscribe at h
  refine Wk_seq (Wk_regionZ fun Z hZ => ?_)
  simp only [go_sem, seval]
  refine hZ _ (pp (Wk_seq ?_))
  apply Wk_join1 (fun (c7 : Bool) => ⟨tab 52 (updT (updT (updT (updT (updT deadT 2 (.val (.string a2))) 3 (.pref 3 [] 0 0)) 4 (.pref 4 [] 0 0)) 6 (.pref 6 [] 0 0)) 19 (.val (.bool c7))), (upd (upd (upd RZ 3 (.sl true none 4 (some 1) [Topic.row a0])) 4 (.sl true none 2 (some 1) [[.val (.string a1.Type_), .val (.string a1.Key)]])) 6 (.sl true none 4 (some 1) [[.val (.string (⟨#[]⟩)), .val (.int .i64 0), .val (.slice none 0 0), .val (.slice none 0 0)]]))⟩)
  · intro hJ1
    obtain ⟨r8, hr2, h⟩ := Option.bind_eq_some_iff.1 h
    refine Wk_regionZ fun Z hZ => ?_
    simp only [go_sem, seval, hr2]
    refine RX_guard_nbool rfl (fun hc3 => ?_) (fun hc3 => ?_)
    · rw [if_neg (ne_true_of_eq_false hc3)] at h
      simp only [go_sem, seval, hc3]
      refine hZ _ (pp (hJ1 _ true ?_ h))
      refine weak_roots ?_ ?_ <;> repeat' first | exact xn | exact rn | refine xc ?_ ?_ | refine rc ?_ ?_ ?_ | rfl
    rw [if_pos hc3] at h
    obtain ⟨r9, hr4, h⟩ := Option.bind_eq_some_iff.1 h
    simp only [go_sem, seval, hc3, hr4]
    refine hZ _ (pp (hJ1 _ (!r9) ?_ h))
    refine weak_roots ?_ ?_ <;> repeat' first | exact xn | exact rn | refine xc ?_ ?_ | refine rc ?_ ?_ ?_ | rfl
  intro c7 h
  unfold streams_Subscribe_J1 at h
  refine Wk_cond_bool rfl (fun hc5 => ?_) (fun hc5 => ?_)
  · rw [if_pos hc5] at h
    refine Wk_seq (Wk_regionZ fun Z hZ => ?_)
    simp only [go_sem, seval, hc5]
    refine hZ _ (pp (Wk_ret (pp ?_)))
    cases h
    simp only [go_sem, seval]
    exact ⟨_, rfl, RokI.h, PureI.h⟩
  rw [if_neg (ne_true_of_eq_false hc5)] at h
  refine Wk_skip (pp ?_)
  unfold streams_Subscribe_J2 at h
  refine Wk_seq ?_
  obtain ⟨r10, hr6, h⟩ := Option.bind_eq_some_iff.1 h
  refine Wk_regionZ fun Z hZ => ?_
  simp only [go_sem, seval, hc5, hr6]
  refine hZ _ (pp (Wk_seq (Wk_block (Wk_seq (Wk_regionZ fun Z hZ => ?_)))))
  simp only [go_sem, seval]
  refine hZ _ (pp (Wk_cond_bool rfl (fun hc7 => ?_) (fun hc7 => ?_)))
  · rw [if_pos hc7] at h
    refine Wk_seq (Wk_regionZ fun Z hZ => ?_)
    simp only [go_sem, seval, hc7]
    refine hZ _ (pp (Wk_ret (pp ?_)))
    cases h
    simp only [go_sem, seval]
    exact ⟨_, rfl, RokI.h, PureI.h⟩
  rw [if_neg (ne_true_of_eq_false hc7)] at h
  refine Wk_seq (Wk_regionZ fun Z hZ => ?_)
  simp only [go_sem, seval, hc7]
  refine hZ _ (pp (Wk_cond_dec rfl (fun hc8 => ?_) (fun hc8 => ?_)))
  · have hc8d := decide_eq_true hc8
    rw [if_pos hc8] at h
    refine Wk_seq (Wk_regionZ fun Z hZ => ?_)
    simp only [go_sem, seval, hc8d]
    refine hZ _ (pp (Wk_ret (pp ?_)))
    cases h
    simp only [go_sem, seval]
    exact ⟨_, rfl, RokI.h, PureI.h⟩
  have hc8d := decide_eq_false hc8
  rw [if_neg hc8] at h
  refine Wk_skip (pp (Wk_seq ?_))
  obtain ⟨r11, hr9, h⟩ := Option.bind_eq_some_iff.1 h
  refine Wk_regionZ fun Z hZ => ?_
  simp only [go_sem, seval, hc8d, hr9]
  refine hZ _ (pp (Wk_seq ?_))
  obtain ⟨r12, hr10, h⟩ := Option.bind_eq_some_iff.1 h
  refine Wk_regionZ fun Z hZ => ?_
  simp only [go_sem, seval, hr10]
  refine hZ _ (pp (Wk_seq ?_))
  obtain ⟨r13, hr11, h⟩ := Option.bind_eq_some_iff.1 h
  refine Wk_regionZ fun Z hZ => ?_
  simp only [go_sem, seval, hr11]
  refine hZ _ (pp (Wk_seq (Wk_regionZ fun Z hZ => ?_)))
  simp only [go_sem, seval]
  refine hZ _ (pp (Wk_ret (pp ?_)))
  cases h
  simp only [go_sem, seval]
  exact ⟨_, rfl, RokI.h, PureI.h⟩
def fs_streams_Subscribe (N : Nat) : FnS := ⟨[], true, fn3 Topic.decA Ref.decA decS fun q0 q1 q2 => (streams_Subscribe N q0 q1 q2).map fun r => .tup [.agg (Topic.row r.1), .val (.int .i64 r.2)], false⟩
attribute [go_sem] fs_streams_Subscribe
theorem fs_streams_Subscribe_ok (N : Nat) : FSOk Try.prog 11 (fs_streams_Subscribe N) := ok3 (fun q0 q1 q2 r h => by
  obtain ⟨r', hr, rfl⟩ := Option.map_eq_some_iff.1 h
  exact (w_streams_Subscribe N q0 q1 q2 r' hr).res (by (try simp only [go_sem]); exact RokI.h)) (Topic.decA_le) (Ref.decA_le) (decS_le)

def fso_streams_Subscribe (N : Nat) : FnS := ⟨[], true, fn3 Topic.decA Ref.decA decS fun q0 q1 q2 => (streams_Subscribe N q0 q1 q2).map fun r => .tup [.agg [.val (.string r.1.Name), .val (.int .i64 r.1.First), .sl true none 1 none (r.1.Events.map (rowI .i64)), .sl true none 4 none (r.1.Subs.map Sub.row)], .val (.int .i64 r.2)], false⟩
attribute [go_sem] fso_streams_Subscribe
theorem fso_streams_Subscribe_ok (N : Nat) : FSOk Try.prog 11 (fso_streams_Subscribe N) := ok3 (fun q0 q1 q2 r h => by
  obtain ⟨r', hr, rfl⟩ := Option.map_eq_some_iff.1 h
  exact w_streams_Subscribe N q0 q1 q2 r' hr) (Topic.decA_le) (Ref.decA_le) (decS_le)


noncomputable def G_streams_Publish (N d f : Nat) : Option FnS := glist [(9, 19, fs_streams_Valid N), (13, 17, fs_streams_End N), (24, 28, fso_streams_clone N)] d f
attribute [go_sem] G_streams_Publish
theorem w_streams_Publish (N : Nat) (a0 : Topic) (a1 : Int) (r : Topic × Int × Int) (h : streams_Publish N a0 a1 = some r) : Con Try.prog 10 [] true [.agg (Topic.row a0), .val (.int .i64 a1)] (.tup [.agg [.val (.string r.1.Name), .val (.int .i64 r.1.First), .sl true none 1 none (r.1.Events.map (rowI .i64)), .sl true none 4 none (r.1.Subs.map Sub.row)], .val (.int .i64 r.2.1), .val (.int .i64 r.2.2)]) := by
  refine fun_ok4 (G := (G_streams_Publish N)) Try.func10 rfl (by decide) (by kernel_rfl) (gc 9 (fs_streams_Valid_ok N) (gc 13 (fs_streams_End_ok N) (gc 24 (fso_streams_clone_ok N) gn))) [] mix (Nat.le_of_ble_eq_true rfl) ?_
  simp only [Try.f10]
  unfold streams_Publish at h
  refine Wk_seq (Wk_regionZ fun Z hZ => ?_)
  simp only [go_sem, seval]
  refine hZ _ (pp (Wk_seq (Wk_seq ?_)))
  obtain ⟨r1, hr1, h⟩ := Option.bind_eq_some_iff.1 h
  refine Wk_regionZ fun Z hZ => ?_
  simp only [go_sem, seval, hr1]
  refine hZ _ (pp (Wk_cond_nbool rfl (fun hc2 => ?_) (fun hc2 => ?_)))
  · rw [if_neg (ne_true_of_eq_false hc2)] at h
    refine Wk_seq (Wk_regionZ fun Z hZ => ?_)
    simp only [go_sem, seval, hc2]
    refine hZ _ (pp (Wk_ret (pp ?_)))
    cases h
    simp only [go_sem, seval]
    exact ⟨_, rfl, RokI.h, PureI.h⟩
  rw [if_pos hc2] at h
  refine Wk_skip (pp (Wk_seq ?_))
  obtain ⟨r2, hr3, h⟩ := Option.bind_eq_some_iff.1 h
  refine Wk_regionZ fun Z hZ => ?_
  simp only [go_sem, seval, hc2, hr3]
  refine hZ _ (pp (Wk_seq ?_))
  apply Wk_join1 (fun (c5 : Bool) => ⟨tab 33 (updT (updT (updT (updT (updT deadT 1 (.val (.int .i64 a1))) 2 (.pref 2 [] 0 0)) 4 (.pref 4 [] 0 0)) 7 (.val (.int .i64 r2))) 21 (.val (.bool c5))), (upd (upd RZ 2 (.sl true none 4 (some 1) [Topic.row a0])) 4 (.sl true none 4 (some 1) [[.val (.string (⟨#[]⟩)), .val (.int .i64 0), .val (.slice none 0 0), .val (.slice none 0 0)]]))⟩)
  · intro hJ4
    refine Wk_regionZ fun Z hZ => ?_
    simp only [go_sem, seval]
    refine RX_guard_dec rfl (fun hc5 => ?_) (fun hc5 => ?_)
    · have hc5d := decide_eq_true hc5
      rw [if_pos hc5] at h
      simp only [go_sem, seval, hc5d]
      refine hZ _ (pp (hJ4 _ true ?_ h))
      refine weak_roots ?_ ?_ <;> repeat' first | exact xn | exact rn | refine xc ?_ ?_ | refine rc ?_ ?_ ?_ | rfl
    have hc5d := decide_eq_false hc5
    rw [if_neg hc5] at h
    simp only [go_sem, seval, hc5d]
    refine hZ _ (pp (hJ4 _ (decide (r2 = 1099511627776)) ?_ h))
    refine weak_roots ?_ ?_ <;> repeat' first | exact xn | exact rn | refine xc ?_ ?_ | refine rc ?_ ?_ ?_ | rfl
  intro c5 h
  unfold streams_Publish_J1 at h
  refine Wk_cond_bool rfl (fun hc6 => ?_) (fun hc6 => ?_)
  · rw [if_pos hc6] at h
    refine Wk_seq (Wk_regionZ fun Z hZ => ?_)
    simp only [go_sem, seval, hc6]
    refine hZ _ (pp (Wk_ret (pp ?_)))
    cases h
    simp only [go_sem, seval]
    exact ⟨_, rfl, RokI.h, PureI.h⟩
  rw [if_neg (ne_true_of_eq_false hc6)] at h
  refine Wk_skip (pp ?_)
  unfold streams_Publish_J2 at h
  refine Wk_seq ?_
  obtain ⟨r6, hr7, h⟩ := Option.bind_eq_some_iff.1 h
  refine Wk_regionZ fun Z hZ => ?_
  simp only [go_sem, seval, hc6, hr7]
  refine hZ _ (pp (Wk_seq ?_))
  obtain ⟨ha8, h⟩ := apx_some h
  simp only [List.length_cons, List.length_nil, Nat.zero_add, Nat.reduceAdd] at ha8
  refine Wk_regionZ fun Z hZ => ?_
  simp only [go_sem, seval, ha8]
  refine hZ _ (pp (Wk_seq (Wk_regionZ fun Z hZ => ?_)))
  simp only [go_sem, seval]
  refine hZ _ (pp (Wk_ret (pp ?_)))
  cases h
  simp only [go_sem, seval]
  exact ⟨_, rfl, RokI.h, PureI.h⟩
def fs_streams_Publish (N : Nat) : FnS := ⟨[], true, fn2 Topic.decA (decI .i64) fun q0 q1 => (streams_Publish N q0 q1).map fun r => .tup [.agg (Topic.row r.1), .val (.int .i64 r.2.1), .val (.int .i64 r.2.2)], false⟩
attribute [go_sem] fs_streams_Publish
theorem fs_streams_Publish_ok (N : Nat) : FSOk Try.prog 10 (fs_streams_Publish N) := ok2 (fun q0 q1 r h => by
  obtain ⟨r', hr, rfl⟩ := Option.map_eq_some_iff.1 h
  exact (w_streams_Publish N q0 q1 r' hr).res (by (try simp only [go_sem]); exact RokI.h)) (Topic.decA_le) (decI_le)

def fso_streams_Publish (N : Nat) : FnS := ⟨[], true, fn2 Topic.decA (decI .i64) fun q0 q1 => (streams_Publish N q0 q1).map fun r => .tup [.agg [.val (.string r.1.Name), .val (.int .i64 r.1.First), .sl true none 1 none (r.1.Events.map (rowI .i64)), .sl true none 4 none (r.1.Subs.map Sub.row)], .val (.int .i64 r.2.1), .val (.int .i64 r.2.2)], false⟩
attribute [go_sem] fso_streams_Publish
theorem fso_streams_Publish_ok (N : Nat) : FSOk Try.prog 10 (fso_streams_Publish N) := ok2 (fun q0 q1 r h => by
  obtain ⟨r', hr, rfl⟩ := Option.map_eq_some_iff.1 h
  exact w_streams_Publish N q0 q1 r' hr) (Topic.decA_le) (decI_le)


noncomputable def G_streams_Pending (N d f : Nat) : Option FnS := glist [(7, 19, fs_streams_Valid N), (19, 17, fs_streams_End N)] d f
attribute [go_sem] G_streams_Pending
theorem w_streams_Pending (N : Nat) (a0 : Topic) (r : (List Delivery)) (h : streams_Pending N a0 = some r) : Con Try.prog 15 [] true [.agg (Topic.row a0)] (.sl true none 5 none (r.map Delivery.row)) := by
  refine fun_ok4 (G := (G_streams_Pending N)) Try.func15 rfl (by decide) (by kernel_rfl) (gc 7 (fs_streams_Valid_ok N) (gc 19 (fs_streams_End_ok N) gn)) [] mix (Nat.le_of_ble_eq_true rfl) ?_
  simp only [Try.f15]
  unfold streams_Pending at h
  refine Wk_seq (Wk_regionZ fun Z hZ => ?_)
  simp only [go_sem, seval]
  refine hZ _ (pp (Wk_seq (Wk_seq ?_)))
  obtain ⟨r1, hr1, h⟩ := Option.bind_eq_some_iff.1 h
  refine Wk_regionZ fun Z hZ => ?_
  simp only [go_sem, seval, hr1]
  refine hZ _ (pp (Wk_cond_nbool rfl (fun hc2 => ?_) (fun hc2 => ?_)))
  · rw [if_neg (ne_true_of_eq_false hc2)] at h
    refine Wk_seq (Wk_regionZ fun Z hZ => ?_)
    simp only [go_sem, seval, hc2]
    refine hZ _ (pp (Wk_ret (pp ?_)))
    cases h
    simp only [go_sem, seval]
    exact ⟨_, rfl, RokI.h, PureI.h⟩
  rw [if_pos hc2] at h
  refine Wk_skip (pp (Wk_seq (Wk_regionZ fun Z hZ => ?_)))
  simp only [go_sem, seval, hc2]
  refine hZ _ (pp (Wk_seq (Wk_seq (Wk_regionZ fun Z hZ => ?_))))
  simp only [go_sem, seval]
  refine hZ _ (pp (Wk_block (Wk_real fun hreal4 => ?_)))
  have hl3 := hreal4.lenT 10 (by decide) (by simp only [go_sem, seval]; rfl)
  rw [List.length_map] at hl3
  refine Wk_range (fun (v5 : Nat) (b : List Delivery) => ⟨tab 42 (updT (updT (updT (updT (updT deadT 1 (.pref 1 [] 0 0)) 3 (.pal 39 [] 0 b.length none)) 10 (.sl false none 4 none (a0.Subs.map Sub.row))) 11 (.val (.int .i64 ((a0.Subs.length : Nat) : Int)))) 12 (.val (.int .i64 ((v5 : Nat) : Int)))), (upd (upd RZ 1 (.sl true none 4 (some 1) [Topic.row a0])) 39 (.sl true none 5 none (b.map Delivery.row)))⟩) [] h ?_ ?_
  · refine Weak.trans (weak_adopt 3 39 5 (by simp only [go_sem, seval]) (by simp only [go_sem, seval])) ?_
    refine weak_roots ?_ ?_ <;> repeat' first | exact xn | exact rn | refine xc ?_ ?_ | refine rc ?_ ?_ ?_ | rfl | simp only [go_sem, seval, Bool.or_self, List.length_set, Int.natCast_zero, Int.cast_ofNat_Int, hr1, hc2]
  rintro v5 l4 hi5 h -
  rcases (drop_cases a0.Subs v5 hi5).symm with ⟨hi5', _, hd8⟩ | ⟨x8, hi5', hx6, hd8⟩
  · rw [hd8] at h
    simp only [streams_Pending_L1] at h
    refine Wk_seq (Wk_regionZ fun Z hZ => ?_)
    simp only [go_sem, seval, hi5']
    refine hZ _ (pp (Wk_seq ?_))
    try simp only [Int.ofNat_lt, hi5', if_true, if_false] at h
    refine Wk_cond_f rfl (Wk_exit (pp (Wk_seq (Wk_regionZ fun Z hZ => ?_))))
    simp only [go_sem, seval]
    refine hZ _ (pp (Wk_ret (pp ?_)))
    cases h
    simp only [go_sem, seval]
    exact ⟨_, rfl, RokI.h, PureI.h⟩
  rw [hd8] at h
  simp only [streams_Pending_L1] at h
  have hw7 := wrap_succ hi5' hl3
  refine Wk_seq (Wk_regionZ fun Z hZ => ?_)
  simp only [go_sem, seval, hi5']
  refine hZ _ (pp (Wk_seq ?_))
  try simp only [Int.ofNat_lt, hi5', if_true, if_false] at h
  refine Wk_cond_t rfl (Wk_skip (pp (Wk_seq (Wk_block (Wk_seq ?_)))))
  try rw [gx_nat hx6] at h
  refine Wk_regionZ fun Z hZ => ?_
  simp only [go_sem, seval, hx6, hi5']
  refine hZ _ (pp (Wk_seq ?_))
  obtain ⟨r2, hr9, h⟩ := Option.bind_eq_some_iff.1 h
  refine Wk_regionD fun Z hZ => ?_
  simp only [go_sem, seval, hr9]
  repeat with_reducible refine and_bar (by kernel_rfl) ?_
  refine hZ _ (by kernel_rfl) (pp (sw (Wk_cond_dec rfl) (fun hc10 => ?_) (fun hc10 => ?_)))
  · have hc10d := decide_eq_false hc10
    rw [if_neg hc10] at h
    refine Wk_skip (pp (Wk_regionZ fun Z hZ => ?_))
    simp only [go_sem, seval, hw7, hc10d]
    refine hZ _ (pp ?_)
    first | refine ⟨l4, ?_, h⟩ | refine ⟨hi5', l4, ?_, h⟩
    refine weak_roots ?_ ?_ <;> repeat' first | exact xn | exact rn | refine xc ?_ ?_ | refine rc ?_ ?_ ?_ | rfl | simp only [go_sem, seval, Bool.or_self, List.length_set, Int.natCast_zero, Int.cast_ofNat_Int, hr1, hc2, hx6, hi5', hw7, hr9, hc10d]
  have hc10d := decide_eq_true hc10
  rw [if_pos hc10] at h
  obtain ⟨x3, hb11, hx12, h⟩ := gx_some h
  obtain ⟨ha13, h⟩ := apx_some h
  simp only [List.length_cons, List.length_nil, Nat.zero_add, Nat.reduceAdd] at ha13
  refine Wk_regionD fun Z hZ => ?_
  simp only [go_sem, seval, hc10d, hb11, hx12, ha13]
  repeat with_reducible refine and_bar (by kernel_rfl) ?_
  refine hZ _ (by kernel_rfl) (pp (Wk_regionZ fun Z hZ => ?_))
  simp only [go_sem, seval, hw7]
  refine hZ _ (pp ?_)
  first | refine ⟨(l4 ++ [(Delivery.mk x8.Target x8.Method x8.Cursor x3)]), ?_, h⟩ | refine ⟨hi5', (l4 ++ [(Delivery.mk x8.Target x8.Method x8.Cursor x3)]), ?_, h⟩
  refine weak_roots ?_ ?_ <;> repeat' first | exact xn | exact rn | refine xc ?_ ?_ | refine rc ?_ ?_ ?_ | rfl | simp only [go_sem, seval]
def fs_streams_Pending (N : Nat) : FnS := ⟨[], true, fn1 Topic.decA fun q0 => (streams_Pending N q0).map fun r => .sl false none 5 none (r.map Delivery.row), false⟩
attribute [go_sem] fs_streams_Pending
theorem fs_streams_Pending_ok (N : Nat) : FSOk Try.prog 15 (fs_streams_Pending N) := ok1 (fun q0 r h => by
  obtain ⟨r', hr, rfl⟩ := Option.map_eq_some_iff.1 h
  exact (w_streams_Pending N q0 r' hr).res (by (try simp only [go_sem]); exact RokI.h)) (Topic.decA_le)

def fso_streams_Pending (N : Nat) : FnS := ⟨[], true, fn1 Topic.decA fun q0 => (streams_Pending N q0).map fun r => .sl true none 5 none (r.map Delivery.row), false⟩
attribute [go_sem] fso_streams_Pending
theorem fso_streams_Pending_ok (N : Nat) : FSOk Try.prog 15 (fso_streams_Pending N) := ok1 (fun q0 r h => by
  obtain ⟨r', hr, rfl⟩ := Option.map_eq_some_iff.1 h
  exact w_streams_Pending N q0 r' hr) (Topic.decA_le)


noncomputable def G_streams_Ack (N d f : Nat) : Option FnS := glist [(13, 19, fs_streams_Valid N), (20, 30, fs_streams_find N), (48, 17, fs_streams_End N), (52, 28, fso_streams_clone N)] d f
attribute [go_sem] G_streams_Ack
theorem w_streams_Ack (N : Nat) (a0 : Topic) (a1 : Ref) (a2 : ByteArray) (a3 : Int) (r : Topic × Int) (h : streams_Ack N a0 a1 a2 a3 = some r) : Con Try.prog 16 [] true [.agg (Topic.row a0), .agg [.val (.string a1.Type_), .val (.string a1.Key)], .val (.string a2), .val (.int .i64 a3)] (.tup [.agg [.val (.string r.1.Name), .val (.int .i64 r.1.First), .sl true none 1 none (r.1.Events.map (rowI .i64)), .sl true none 4 none (r.1.Subs.map Sub.row)], .val (.int .i64 r.2)]) := by
  refine fun_ok4 (G := (G_streams_Ack N)) Try.func16 rfl (by decide) (by kernel_rfl) (gc 13 (fs_streams_Valid_ok N) (gc 20 (fs_streams_find_ok N) (gc 48 (fs_streams_End_ok N) (gc 52 (fso_streams_clone_ok N) gn)))) [] mix (Nat.le_of_ble_eq_true rfl) ?_
  simp only [Try.f16]
  unfold streams_Ack at h
  refine Wk_seq (Wk_regionZ fun Z hZ => ?_)
  simp only [go_sem, seval]
  refine hZ _ (pp (Wk_seq (Wk_seq ?_)))
  obtain ⟨r1, hr1, h⟩ := Option.bind_eq_some_iff.1 h
  refine Wk_regionZ fun Z hZ => ?_
  simp only [go_sem, seval, hr1]
  refine hZ _ (pp (Wk_cond_nbool rfl (fun hc2 => ?_) (fun hc2 => ?_)))
  · rw [if_neg (ne_true_of_eq_false hc2)] at h
    refine Wk_seq (Wk_regionZ fun Z hZ => ?_)
    simp only [go_sem, seval, hc2]
    refine hZ _ (pp (Wk_ret (pp ?_)))
    cases h
    simp only [go_sem, seval]
    exact ⟨_, rfl, RokI.h, PureI.h⟩
  rw [if_pos hc2] at h
  refine Wk_skip (pp (Wk_seq ?_))
  obtain ⟨r2, hr3, h⟩ := Option.bind_eq_some_iff.1 h
  refine Wk_regionZ fun Z hZ => ?_
  simp only [go_sem, seval, hc2, hr3]
  refine hZ _ (pp (Wk_seq (Wk_block (Wk_seq (Wk_regionZ fun Z hZ => ?_)))))
  simp only [go_sem, seval]
  refine hZ _ (pp (Wk_cond_nbool rfl (fun hc4 => ?_) (fun hc4 => ?_)))
  · rw [if_neg (ne_true_of_eq_false hc4)] at h
    refine Wk_seq (Wk_regionZ fun Z hZ => ?_)
    simp only [go_sem, seval, hc4]
    refine hZ _ (pp (Wk_ret (pp ?_)))
    cases h
    simp only [go_sem, seval]
    exact ⟨_, rfl, RokI.h, PureI.h⟩
  rw [if_pos hc4] at h
  refine Wk_seq ?_
  obtain ⟨x7, hb5, hx6, h⟩ := gx_some h
  refine Wk_regionZ fun Z hZ => ?_
  simp only [go_sem, seval, hc4, hb5, hx6]
  refine hZ _ (pp (Wk_cond_dec rfl (fun hc7 => ?_) (fun hc7 => ?_)))
  · have hc7d := decide_eq_true hc7
    rw [if_pos hc7] at h
    refine Wk_seq (Wk_regionZ fun Z hZ => ?_)
    simp only [go_sem, seval, hc7d]
    refine hZ _ (pp (Wk_ret (pp ?_)))
    cases h
    simp only [go_sem, seval]
    exact ⟨_, rfl, RokI.h, PureI.h⟩
  have hc7d := decide_eq_false hc7
  rw [if_neg hc7] at h
  apply Wk_join1 (fun (c9 : Bool) => ⟨tab 63 (updT (updT (updT (updT deadT 4 (.pref 4 [] 0 0)) 8 (.pref 8 [] 0 0)) 10 (.val (.int .i64 r2.1))) 37 (.val (.bool c9))), (upd (upd RZ 4 (.sl true none 4 (some 1) [Topic.row a0])) 8 (.sl true none 4 (some 1) [[.val (.string (⟨#[]⟩)), .val (.int .i64 0), .val (.slice none 0 0), .val (.slice none 0 0)]]))⟩)
  · intro hJ8
    refine Wk_seq (Wk_regionZ fun Z hZ => ?_)
    simp only [go_sem, seval, hb5, hx6, hc7d]
    refine hZ _ (pp (Wk_cond_dec rfl (fun hc9 => ?_) (fun hc9 => ?_)))
    · have hc9d := decide_eq_true hc9
      rw [if_pos hc9] at h
      refine Wk_skip (pp (hJ8 _ true ?_ h))
      refine weak_roots ?_ ?_ <;> repeat' first | exact xn | exact rn | refine xc ?_ ?_ | refine rc ?_ ?_ ?_ | rfl | simp only [go_sem, seval, hc9d]
    have hc9d := decide_eq_false hc9
    rw [if_neg hc9] at h
    obtain ⟨r10, hr10, h⟩ := Option.bind_eq_some_iff.1 h
    refine Wk_regionZ fun Z hZ => ?_
    simp only [go_sem, seval, hc9d, hr10]
    refine hZ _ (pp (hJ8 _ (decide (a3 = r10)) ?_ h))
    refine weak_roots ?_ ?_ <;> repeat' first | exact xn | exact rn | refine xc ?_ ?_ | refine rc ?_ ?_ ?_ | rfl | simp only [go_sem, seval, Bool.or_self, List.length_set, Int.natCast_zero, Int.cast_ofNat_Int, hr1, hc2, hr3, hc4, hb5, hx6, hc7d, hc9d, hr10]
  intro c9 h
  unfold streams_Ack_J1 at h
  refine Wk_cond_bool rfl (fun hc11 => ?_) (fun hc11 => ?_)
  · rw [if_pos hc11] at h
    refine Wk_seq (Wk_regionZ fun Z hZ => ?_)
    simp only [go_sem, seval, hc11]
    refine hZ _ (pp (Wk_ret (pp ?_)))
    cases h
    simp only [go_sem, seval]
    exact ⟨_, rfl, RokI.h, PureI.h⟩
  rw [if_neg (ne_true_of_eq_false hc11)] at h
  refine Wk_skip (pp ?_)
  unfold streams_Ack_J2 at h
  refine Wk_seq ?_
  obtain ⟨r11, hr12, h⟩ := Option.bind_eq_some_iff.1 h
  refine Wk_regionZ fun Z hZ => ?_
  simp only [go_sem, seval, hc11, hr12]
  refine hZ _ (pp (Wk_seq ?_))
  obtain ⟨x12, hb13, hx14, h⟩ := gx_some h
  have hx16 := set_get (y := (Sub.mk x12.Target x12.Method (IntKind.i64.wrap (x12.Cursor + 1)))) hx14
  refine Wk_regionZ fun Z hZ => ?_
  simp only [go_sem, seval, hb5, hb13, hx14, map_modify2 (row := Sub.row) (y := (Sub.mk x12.Target x12.Method (IntKind.i64.wrap (x12.Cursor + 1)))) (rx := [.val (.string x12.Target.Type_), .val (.string x12.Target.Key), .val (.string x12.Method), .val (.int .i64 x12.Cursor)]) (ry := [.val (.string x12.Target.Type_), .val (.string x12.Target.Key), .val (.string x12.Method), .val (.int .i64 (IntKind.i64.wrap (x12.Cursor + 1)))]) hx14 rfl rfl]
  refine hZ _ (pp (Wk_seq (Wk_regionZ fun Z hZ => ?_)))
  simp only [go_sem, seval]
  refine hZ _ (pp (Wk_ret (pp ?_)))
  cases h
  simp only [go_sem, seval]
  exact ⟨_, rfl, RokI.h, PureI.h⟩
def fs_streams_Ack (N : Nat) : FnS := ⟨[], true, fn4 Topic.decA Ref.decA decS (decI .i64) fun q0 q1 q2 q3 => (streams_Ack N q0 q1 q2 q3).map fun r => .tup [.agg (Topic.row r.1), .val (.int .i64 r.2)], false⟩
attribute [go_sem] fs_streams_Ack
theorem fs_streams_Ack_ok (N : Nat) : FSOk Try.prog 16 (fs_streams_Ack N) := ok4 (fun q0 q1 q2 q3 r h => by
  obtain ⟨r', hr, rfl⟩ := Option.map_eq_some_iff.1 h
  exact (w_streams_Ack N q0 q1 q2 q3 r' hr).res (by (try simp only [go_sem]); exact RokI.h)) (Topic.decA_le) (Ref.decA_le) (decS_le) (decI_le)

def fso_streams_Ack (N : Nat) : FnS := ⟨[], true, fn4 Topic.decA Ref.decA decS (decI .i64) fun q0 q1 q2 q3 => (streams_Ack N q0 q1 q2 q3).map fun r => .tup [.agg [.val (.string r.1.Name), .val (.int .i64 r.1.First), .sl true none 1 none (r.1.Events.map (rowI .i64)), .sl true none 4 none (r.1.Subs.map Sub.row)], .val (.int .i64 r.2)], false⟩
attribute [go_sem] fso_streams_Ack
theorem fso_streams_Ack_ok (N : Nat) : FSOk Try.prog 16 (fso_streams_Ack N) := ok4 (fun q0 q1 q2 q3 r h => by
  obtain ⟨r', hr, rfl⟩ := Option.map_eq_some_iff.1 h
  exact w_streams_Ack N q0 q1 q2 q3 r' hr) (Topic.decA_le) (Ref.decA_le) (decS_le) (decI_le)


noncomputable def G_streams_Trim (N d f : Nat) : Option FnS := glist [(8, 19, fs_streams_Valid N), (12, 17, fs_streams_End N), (26, 28, fso_streams_clone N)] d f
attribute [go_sem] G_streams_Trim
theorem w_streams_Trim (N : Nat) (a0 : Topic) (r : Topic) (h : streams_Trim N a0 = some r) : Con Try.prog 14 [] true [.agg (Topic.row a0)] (.agg [.val (.string r.Name), .val (.int .i64 r.First), .sl true none 1 none (r.Events.map (rowI .i64)), .sl true none 4 none (r.Subs.map Sub.row)]) := by
  refine fun_ok4 (G := (G_streams_Trim N)) Try.func14 rfl (by decide) (by kernel_rfl) (gc 8 (fs_streams_Valid_ok N) (gc 12 (fs_streams_End_ok N) (gc 26 (fso_streams_clone_ok N) gn))) [] mix (Nat.le_of_ble_eq_true rfl) ?_
  simp only [Try.f14]
  unfold streams_Trim at h
  refine Wk_seq (Wk_regionZ fun Z hZ => ?_)
  simp only [go_sem, seval]
  refine hZ _ (pp (Wk_seq (Wk_seq ?_)))
  obtain ⟨r1, hr1, h⟩ := Option.bind_eq_some_iff.1 h
  refine Wk_regionZ fun Z hZ => ?_
  simp only [go_sem, seval, hr1]
  refine hZ _ (pp (Wk_cond_nbool rfl (fun hc2 => ?_) (fun hc2 => ?_)))
  · rw [if_neg (ne_true_of_eq_false hc2)] at h
    refine Wk_seq (Wk_regionZ fun Z hZ => ?_)
    simp only [go_sem, seval, hc2]
    refine hZ _ (pp (Wk_ret (pp ?_)))
    cases h
    simp only [go_sem, seval]
    exact ⟨_, rfl, RokI.h, PureI.h⟩
  rw [if_pos hc2] at h
  refine Wk_skip (pp (Wk_seq ?_))
  obtain ⟨r2, hr3, h⟩ := Option.bind_eq_some_iff.1 h
  refine Wk_regionZ fun Z hZ => ?_
  simp only [go_sem, seval, hc2, hr3]
  refine hZ _ (pp (Wk_seq (Wk_seq (Wk_regionZ fun Z hZ => ?_))))
  simp only [go_sem, seval]
  refine hZ _ (pp (Wk_block (Wk_real fun hreal5 => ?_)))
  have hl4 := hreal5.lenT 14 (by decide) (by simp only [go_sem, seval]; rfl)
  rw [List.length_map] at hl4
  refine Wk_range (fun (v6 : Nat) (b : Int) => ⟨tab 39 (updT (updT (updT (updT (updT (updT deadT 1 (.pref 1 [] 0 0)) 2 (.pref 2 [] 0 0)) 3 (.val (.int .i64 b))) 14 (.sl false none 4 none (a0.Subs.map Sub.row))) 15 (.val (.int .i64 ((a0.Subs.length : Nat) : Int)))) 16 (.val (.int .i64 ((v6 : Nat) : Int)))), (upd (upd RZ 1 (.sl true none 4 (some 1) [Topic.row a0])) 2 (.sl true none 4 (some 1) [[.val (.string (⟨#[]⟩)), .val (.int .i64 0), .val (.slice none 0 0), .val (.slice none 0 0)]]))⟩) r2 h ?_ ?_
  · refine weak_roots ?_ ?_ <;> repeat' first | exact xn | exact rn | refine xc ?_ ?_ | refine rc ?_ ?_ ?_ | rfl
  rintro v6 v5 hi6 h -
  rcases (drop_cases a0.Subs v6 hi6) with ⟨x9, hi6', hx7, hd9⟩ | ⟨hi6', _, hd9⟩
  · rw [hd9] at h
    simp only [streams_Trim_L1] at h
    have hw8 := wrap_succ hi6' hl4
    refine Wk_seq (Wk_regionZ fun Z hZ => ?_)
    simp only [go_sem, seval, hi6']
    refine hZ _ (pp (Wk_seq ?_))
    try simp only [Int.ofNat_lt, hi6', if_true, if_false] at h
    refine Wk_cond_t rfl (Wk_skip (pp (Wk_seq (Wk_block (Wk_seq ?_)))))
    try rw [gx_nat hx7] at h
    refine Wk_regionZ fun Z hZ => ?_
    simp only [go_sem, seval, hx7, hi6']
    refine hZ _ (pp (Wk_regionZ fun Z hZ => ?_))
    simp only [go_sem, seval]
    refine hZ _ (pp (Wk_regionZ fun Z hZ => ?_))
    simp only [go_sem, seval, hw8]
    refine hZ _ (pp ?_)
    first | refine ⟨(if x9.Cursor < v5 then x9.Cursor else v5), ?_, h⟩ | refine ⟨hi6', (if x9.Cursor < v5 then x9.Cursor else v5), ?_, h⟩
    refine weak_roots ?_ ?_ <;> repeat' first | exact xn | exact rn | refine xc ?_ ?_ | refine rc ?_ ?_ ?_ | rfl
  rw [hd9] at h
  simp only [streams_Trim_L1] at h
  refine Wk_seq (Wk_regionZ fun Z hZ => ?_)
  simp only [go_sem, seval, hi6']
  refine hZ _ (pp (Wk_seq ?_))
  try simp only [Int.ofNat_lt, hi6', if_true, if_false] at h
  refine Wk_cond_f rfl (Wk_exit (pp ?_))
  unfold streams_Trim_J1 at h
  refine Wk_seq ?_
  obtain ⟨r10, hr10, h⟩ := Option.bind_eq_some_iff.1 h
  refine Wk_regionZ fun Z hZ => ?_
  simp only [go_sem, seval, hr10]
  refine hZ _ (pp (Wk_seq ?_))
  obtain ⟨hs11, h⟩ := slx_some h
  try simp only [Int.toNat_natCast] at hs11 h
  first | obtain ⟨ha12, h⟩ := apn_some h | (obtain ⟨ha12, h⟩ := apx_some h; rw [List.nil_append] at h)
  simp only [Nat.reduceAdd] at ha12
  refine Wk_regionZ fun Z hZ => ?_
  simp only [go_sem, seval, hs11, Nat.zero_le, ha12]
  refine hZ _ (pp (Wk_seq (Wk_regionZ fun Z hZ => ?_)))
  simp only [go_sem, seval]
  refine hZ _ (pp (Wk_seq (Wk_regionZ fun Z hZ => ?_)))
  simp only [go_sem, seval]
  refine hZ _ (pp (Wk_ret (pp ?_)))
  cases h
  simp only [go_sem, seval]
  exact ⟨_, rfl, RokI.h, PureI.h⟩
def fs_streams_Trim (N : Nat) : FnS := ⟨[], true, fn1 Topic.decA fun q0 => (streams_Trim N q0).map fun r => .agg (Topic.row r), false⟩
attribute [go_sem] fs_streams_Trim
theorem fs_streams_Trim_ok (N : Nat) : FSOk Try.prog 14 (fs_streams_Trim N) := ok1 (fun q0 r h => by
  obtain ⟨r', hr, rfl⟩ := Option.map_eq_some_iff.1 h
  exact (w_streams_Trim N q0 r' hr).res (by (try simp only [go_sem]); exact RokI.h)) (Topic.decA_le)

def fso_streams_Trim (N : Nat) : FnS := ⟨[], true, fn1 Topic.decA fun q0 => (streams_Trim N q0).map fun r => .agg [.val (.string r.Name), .val (.int .i64 r.First), .sl true none 1 none (r.Events.map (rowI .i64)), .sl true none 4 none (r.Subs.map Sub.row)], false⟩
attribute [go_sem] fso_streams_Trim
theorem fso_streams_Trim_ok (N : Nat) : FSOk Try.prog 14 (fso_streams_Trim N) := ok1 (fun q0 r h => by
  obtain ⟨r', hr, rfl⟩ := Option.map_eq_some_iff.1 h
  exact w_streams_Trim N q0 r' hr) (Topic.decA_le)


noncomputable def G_law30_awake (N d f : Nat) : Option FnS := glist [(7, 7, fs_streams_New N), (16, 11, fs_streams_Subscribe N), (23, 10, fs_streams_Publish N), (35, 10, fs_streams_Publish N), (46, 15, fs_streams_Pending N), (61, 16, fs_streams_Ack N), (67, 14, fs_streams_Trim N), (69, 15, fs_streams_Pending N), (93, 17, fs_streams_End N)] d f
attribute [go_sem] G_law30_awake
theorem w_law30_awake (N : Nat)  (r : Bool) (h : law30_awake N  = some r) : Con Try.prog 6 [] true [] (.val (.bool r)) := by
  refine fun_ok4 (G := (G_law30_awake N)) Try.func6 rfl (by decide) (by kernel_rfl) (gc 7 (fs_streams_New_ok N) (gc 16 (fs_streams_Subscribe_ok N) (gc 23 (fs_streams_Publish_ok N) (gc 35 (fs_streams_Publish_ok N) (gc 46 (fs_streams_Pending_ok N) (gc 61 (fs_streams_Ack_ok N) (gc 67 (fs_streams_Trim_ok N) (gc 69 (fs_streams_Pending_ok N) (gc 93 (fs_streams_End_ok N) gn))))))))) [] mix (Nat.le_of_ble_eq_true rfl) ?_
  simp only [Try.f6]
  unfold law30_awake at h
  refine Wk_seq (Wk_regionZ fun Z hZ => ?_)
  simp only [go_sem, seval]
  refine hZ _ (pp (Wk_seq ?_))
  obtain ⟨r1, hr1, h⟩ := Option.bind_eq_some_iff.1 h
  refine Wk_regionZ fun Z hZ => ?_
  simp only [go_sem, seval, hr1]
  refine hZ _ (pp (Wk_seq (Wk_seq (Wk_regionZ fun Z hZ => ?_))))
  simp only [go_sem, seval]
  refine hZ _ (pp (Wk_cond_ndec rfl (fun hc2 => ?_) (fun hc2 => ?_)))
  · have hc2d := decide_eq_false hc2
    rw [if_neg hc2] at h
    refine Wk_seq (Wk_regionZ fun Z hZ => ?_)
    simp only [go_sem, seval, hc2d]
    refine hZ _ (pp (Wk_ret (pp ?_)))
    cases h
    simp only [go_sem, seval]
    exact ⟨_, rfl, RokI.h, PureI.h⟩
  have hc2d := decide_eq_true hc2
  rw [if_pos hc2] at h
  refine Wk_skip (pp (Wk_seq (Wk_regionZ fun Z hZ => ?_)))
  simp only [go_sem, seval, hc2d]
  refine hZ _ (pp (Wk_seq ?_))
  obtain ⟨r2, hr3, h⟩ := Option.bind_eq_some_iff.1 h
  refine Wk_regionZ fun Z hZ => ?_
  simp only [go_sem, seval, hr3]
  refine hZ _ (pp (Wk_seq (Wk_seq (Wk_regionZ fun Z hZ => ?_))))
  simp only [go_sem, seval]
  refine hZ _ (pp (Wk_cond_ndec rfl (fun hc4 => ?_) (fun hc4 => ?_)))
  · have hc4d := decide_eq_false hc4
    rw [if_neg hc4] at h
    refine Wk_seq (Wk_regionZ fun Z hZ => ?_)
    simp only [go_sem, seval, hc4d]
    refine hZ _ (pp (Wk_ret (pp ?_)))
    cases h
    simp only [go_sem, seval]
    exact ⟨_, rfl, RokI.h, PureI.h⟩
  have hc4d := decide_eq_true hc4
  rw [if_pos hc4] at h
  refine Wk_skip (pp (Wk_seq ?_))
  obtain ⟨r3, hr5, h⟩ := Option.bind_eq_some_iff.1 h
  refine Wk_regionZ fun Z hZ => ?_
  simp only [go_sem, seval, hc4d, hr5]
  refine hZ _ (pp (Wk_seq ?_))
  apply Wk_join1 (fun (c6 : Bool) => ⟨tab 96 (updT (updT (updT deadT 1 (.pref 1 [] 0 0)) 3 (.pref 3 [] 0 0)) 32 (.val (.bool c6))), (upd (upd RZ 1 (.sl true none 4 (some 1) [Topic.row r3.1])) 3 (.sl true none 2 (some 1) [[.val (.string (⟨#[65]⟩)), .val (.string (⟨#[107]⟩))]]))⟩)
  · intro hJ6
    refine Wk_regionZ fun Z hZ => ?_
    simp only [go_sem, seval]
    refine RX_guard_ndec rfl (fun hc7 => ?_) (fun hc7 => ?_)
    · have hc7d := decide_eq_false hc7
      rw [if_neg hc7] at h
      simp only [go_sem, seval, hc7d]
      refine hZ _ (pp (hJ6 _ true ?_ h))
      refine weak_roots ?_ ?_ <;> repeat' first | exact xn | exact rn | refine xc ?_ ?_ | refine rc ?_ ?_ ?_ | rfl
    have hc7d := decide_eq_true hc7
    rw [if_pos hc7] at h
    simp only [go_sem, seval, hc7d]
    refine hZ _ (pp (hJ6 _ (!decide (r3.2.1 = 0)) ?_ h))
    refine weak_roots ?_ ?_ <;> repeat' first | exact xn | exact rn | refine xc ?_ ?_ | refine rc ?_ ?_ ?_ | rfl
  intro c6 h
  unfold law30_awake_J1 at h
  refine Wk_cond_bool rfl (fun hc8 => ?_) (fun hc8 => ?_)
  · rw [if_pos hc8] at h
    refine Wk_seq (Wk_regionZ fun Z hZ => ?_)
    simp only [go_sem, seval, hc8]
    refine hZ _ (pp (Wk_ret (pp ?_)))
    cases h
    simp only [go_sem, seval]
    exact ⟨_, rfl, RokI.h, PureI.h⟩
  rw [if_neg (ne_true_of_eq_false hc8)] at h
  refine Wk_skip (pp ?_)
  unfold law30_awake_J6 at h
  refine Wk_seq ?_
  obtain ⟨r7, hr9, h⟩ := Option.bind_eq_some_iff.1 h
  refine Wk_regionZ fun Z hZ => ?_
  simp only [go_sem, seval, hc8, hr9]
  refine hZ _ (pp (Wk_seq ?_))
  apply Wk_join1 (fun (c10 : Bool) => ⟨tab 96 (updT (updT (updT deadT 1 (.pref 1 [] 0 0)) 3 (.pref 3 [] 0 0)) 44 (.val (.bool c10))), (upd (upd RZ 1 (.sl true none 4 (some 1) [Topic.row r7.1])) 3 (.sl true none 2 (some 1) [[.val (.string (⟨#[65]⟩)), .val (.string (⟨#[107]⟩))]]))⟩)
  · intro hJ10
    refine Wk_regionZ fun Z hZ => ?_
    simp only [go_sem, seval]
    refine RX_guard_ndec rfl (fun hc11 => ?_) (fun hc11 => ?_)
    · have hc11d := decide_eq_false hc11
      rw [if_neg hc11] at h
      simp only [go_sem, seval, hc11d]
      refine hZ _ (pp (hJ10 _ true ?_ h))
      refine weak_roots ?_ ?_ <;> repeat' first | exact xn | exact rn | refine xc ?_ ?_ | refine rc ?_ ?_ ?_ | rfl
    have hc11d := decide_eq_true hc11
    rw [if_pos hc11] at h
    simp only [go_sem, seval, hc11d]
    refine hZ _ (pp (hJ10 _ (!decide (r7.2.1 = 1)) ?_ h))
    refine weak_roots ?_ ?_ <;> repeat' first | exact xn | exact rn | refine xc ?_ ?_ | refine rc ?_ ?_ ?_ | rfl
  intro c10 h
  unfold law30_awake_J2 at h
  refine Wk_cond_bool rfl (fun hc12 => ?_) (fun hc12 => ?_)
  · rw [if_pos hc12] at h
    refine Wk_seq (Wk_regionZ fun Z hZ => ?_)
    simp only [go_sem, seval, hc12]
    refine hZ _ (pp (Wk_ret (pp ?_)))
    cases h
    simp only [go_sem, seval]
    exact ⟨_, rfl, RokI.h, PureI.h⟩
  rw [if_neg (ne_true_of_eq_false hc12)] at h
  refine Wk_skip (pp ?_)
  unfold law30_awake_J5 at h
  refine Wk_seq ?_
  obtain ⟨r11, hr13, h⟩ := Option.bind_eq_some_iff.1 h
  refine Wk_regionZ fun Z hZ => ?_
  simp only [go_sem, seval, hc12, hr13]
  refine hZ _ (pp (Wk_seq ?_))
  apply Wk_join1 (fun (c16 : Bool) => ⟨tab 96 (updT (updT (updT deadT 1 (.pref 1 [] 0 0)) 3 (.pref 3 [] 0 0)) 57 (.val (.bool c16))), (upd (upd RZ 1 (.sl true none 4 (some 1) [Topic.row r7.1])) 3 (.sl true none 2 (some 1) [[.val (.string (⟨#[65]⟩)), .val (.string (⟨#[107]⟩))]]))⟩)
  · intro hJ14
    refine Wk_regionD fun Z hZ => ?_
    simp only [go_sem, seval]
    repeat with_reducible refine and_bar (by kernel_rfl) ?_
    refine RX_guard_ndec rfl (fun hc15 => ?_) (fun hc15 => ?_)
    · have hc15d := decide_eq_false hc15
      rw [if_neg hc15] at h
      simp only [go_sem, seval, hc15d]
      refine hZ _ (by kernel_rfl) (pp (hJ14 _ true ?_ h))
      refine weak_roots ?_ ?_ <;> repeat' first | exact xn | exact rn | refine xc ?_ ?_ | refine rc ?_ ?_ ?_ | rfl
    have hc15d := decide_eq_true hc15
    rw [if_pos hc15] at h
    obtain ⟨x17, hb16, hx17, h⟩ := gx_some h
    try simp only [Int.toNat_zero] at hx17
    try simp only [Int.ofNat_lt, Int.natCast_nonneg, true_and] at hb16
    simp only [go_sem, seval, hc15d, hb16, hx17]
    refine hZ _ (by kernel_rfl) (pp (hJ14 _ (!(sEq x17.Target.Type_ (⟨#[65]⟩) && (sEq x17.Target.Key (⟨#[107]⟩) && (sEq x17.Method (⟨#[109]⟩) && (decide (x17.Seq = 0) && decide (x17.Value = 7)))))) ?_ h))
    refine weak_roots ?_ ?_ <;> repeat' first | exact xn | exact rn | refine xc ?_ ?_ | refine rc ?_ ?_ ?_ | rfl
  intro c16 h
  unfold law30_awake_J3 at h
  refine Wk_cond_bool rfl (fun hc18 => ?_) (fun hc18 => ?_)
  · rw [if_pos hc18] at h
    refine Wk_seq (Wk_regionZ fun Z hZ => ?_)
    simp only [go_sem, seval, hc18]
    refine hZ _ (pp (Wk_ret (pp ?_)))
    cases h
    simp only [go_sem, seval]
    exact ⟨_, rfl, RokI.h, PureI.h⟩
  rw [if_neg (ne_true_of_eq_false hc18)] at h
  refine Wk_skip (pp ?_)
  unfold law30_awake_J4 at h
  refine Wk_seq ?_
  obtain ⟨r18, hr19, h⟩ := Option.bind_eq_some_iff.1 h
  refine Wk_regionZ fun Z hZ => ?_
  simp only [go_sem, seval, hc18, hr19]
  refine hZ _ (pp (Wk_seq (Wk_seq (Wk_regionZ fun Z hZ => ?_))))
  simp only [go_sem, seval]
  refine hZ _ (pp (Wk_cond_ndec rfl (fun hc20 => ?_) (fun hc20 => ?_)))
  · have hc20d := decide_eq_false hc20
    rw [if_neg hc20] at h
    refine Wk_seq (Wk_regionZ fun Z hZ => ?_)
    simp only [go_sem, seval, hc20d]
    refine hZ _ (pp (Wk_ret (pp ?_)))
    cases h
    simp only [go_sem, seval]
    exact ⟨_, rfl, RokI.h, PureI.h⟩
  have hc20d := decide_eq_true hc20
  rw [if_pos hc20] at h
  refine Wk_skip (pp (Wk_seq ?_))
  obtain ⟨r19, hr21, h⟩ := Option.bind_eq_some_iff.1 h
  refine Wk_regionZ fun Z hZ => ?_
  simp only [go_sem, seval, hc20d, hr21]
  refine hZ _ (pp (Wk_seq ?_))
  obtain ⟨r20, hr22, h⟩ := Option.bind_eq_some_iff.1 h
  refine Wk_regionZ fun Z hZ => ?_
  simp only [go_sem, seval, hr22]
  refine hZ _ (pp (Wk_seq (Wk_regionZ fun Z hZ => ?_)))
  simp only [go_sem, seval]
  refine sw (RX_guard_dec rfl) (fun hc23 => ?_) (fun hc23 => ?_)
  · have hc23d := decide_eq_false hc23
    rw [if_neg hc23] at h
    simp only [go_sem, seval, hc23d]
    refine hZ _ (pp (Wk_ret (pp ?_)))
    cases h
    simp only [go_sem, seval]
    exact ⟨_, rfl, RokI.h, PureI.h⟩
  have hc23d := decide_eq_true hc23
  rw [if_pos hc23] at h
  obtain ⟨x21, hb24, hx25, h⟩ := gx_some h
  try simp only [Int.toNat_zero] at hx25
  try simp only [Int.ofNat_lt, Int.natCast_nonneg, true_and] at hb24
  simp only [go_sem, seval, hc23d, hb24, hx25]
  refine sw (RX_guard_dec rfl) (fun hc26 => ?_) (fun hc26 => ?_)
  · have hc26d := decide_eq_false hc26
    rw [if_neg hc26] at h
    simp only [go_sem, seval, hc26d]
    refine hZ _ (pp (Wk_ret (pp ?_)))
    cases h
    simp only [go_sem, seval]
    exact ⟨_, rfl, RokI.h, PureI.h⟩
  have hc26d := decide_eq_true hc26
  rw [if_pos hc26] at h
  simp only [go_sem, seval, hc26d]
  refine sw (RX_guard_dec rfl) (fun hc27 => ?_) (fun hc27 => ?_)
  · have hc27d := decide_eq_false hc27
    rw [if_neg hc27] at h
    simp only [go_sem, seval, hc27d]
    refine hZ _ (pp (Wk_ret (pp ?_)))
    cases h
    simp only [go_sem, seval]
    exact ⟨_, rfl, RokI.h, PureI.h⟩
  have hc27d := decide_eq_true hc27
  rw [if_pos hc27] at h
  simp only [go_sem, seval, hc27d]
  refine RX_guard_dec rfl (fun hc28 => ?_) (fun hc28 => ?_)
  · have hc28d := decide_eq_true hc28
    rw [if_pos hc28] at h
    obtain ⟨r22, hr29, h⟩ := Option.bind_eq_some_iff.1 h
    simp only [go_sem, seval, hc28d, hr29]
    refine hZ _ (pp (Wk_ret (pp ?_)))
    cases h
    simp only [go_sem, seval]
    exact ⟨_, rfl, RokI.h, PureI.h⟩
  have hc28d := decide_eq_false hc28
  rw [if_neg hc28] at h
  simp only [go_sem, seval, hc28d]
  refine hZ _ (pp (Wk_ret (pp ?_)))
  cases h
  simp only [go_sem, seval]
  exact ⟨_, rfl, RokI.h, PureI.h⟩
def fs_law30_awake (N : Nat) : FnS := { own := [], pure := true, fn := fun cs => match cs with
  | [] =>  (law30_awake N ).map fun r => .val (.bool r)
  | _ => none }
attribute [go_sem] fs_law30_awake
theorem fs_law30_awake_ok (N : Nat) : FSOk Try.prog 6 (fs_law30_awake N) := by
  refine ⟨fun cs r h => ?_, fun h => by cases h⟩
  simp only [fs_law30_awake] at h
  split at h
  · simp only [Option.map_eq_some_iff] at h
    obtain ⟨r', hr, rfl⟩ := h
    exact ((w_law30_awake N  r' hr).args (LeL.nil))
  · cases h


theorem w_ref29_SameDeliveries (N : Nat) (a0 : (List Delivery)) (a1 : (List Delivery)) (r : Bool) (h : ref29_SameDeliveries N a0 a1 = some r) : Con Try.prog 18 [] true [.sl false none 5 none (a0.map Delivery.row), .sl false none 5 none (a1.map Delivery.row)] (.val (.bool r)) := by
  refine fun_ok4 (G := (glist [])) Try.func18 rfl (by decide) (by kernel_rfl) gn [] mix (Nat.le_of_ble_eq_true rfl) ?_
  simp only [Try.f18]
  unfold ref29_SameDeliveries at h
  refine Wk_seq (Wk_regionZ fun Z hZ => ?_)
  simp only [go_sem, seval]
  refine hZ _ (pp (Wk_seq (Wk_seq (Wk_regionZ fun Z hZ => ?_))))
  simp only [go_sem, seval]
  refine hZ _ (pp (Wk_cond_ndec rfl (fun hc1 => ?_) (fun hc1 => ?_)))
  · have hc1d := decide_eq_false hc1
    rw [if_neg hc1] at h
    refine Wk_seq (Wk_regionZ fun Z hZ => ?_)
    simp only [go_sem, seval, hc1d]
    refine hZ _ (pp (Wk_ret (pp ?_)))
    cases h
    simp only [go_sem, seval]
    exact ⟨_, rfl, RokI.h, PureI.h⟩
  have hc1d := decide_eq_true hc1
  rw [if_pos hc1] at h
  refine Wk_skip (pp (Wk_seq (Wk_seq (Wk_regionZ fun Z hZ => ?_))))
  simp only [go_sem, seval, hc1d]
  refine hZ _ (pp (Wk_block (Wk_real fun hreal3 => ?_)))
  have hl2 := hreal3.lenT 0 (by decide) (by simp only [go_sem, seval]; rfl)
  rw [List.length_map] at hl2
  refine Wk_range (fun (v3 : Nat) (b : Unit) => ⟨tab 26 (updT (updT (updT deadT 0 (.sl false none 5 none (a0.map Delivery.row))) 1 (.sl false none 5 none (a1.map Delivery.row))) 5 (.val (.int .i64 ((v3 : Nat) : Int)))), RZ⟩) () h ?_ ?_
  · refine weak_roots ?_ ?_ <;> repeat' first | exact xn | exact rn | refine xc ?_ ?_ | refine rc ?_ ?_ ?_ | rfl
  rintro v3 ⟨⟩ hi4 h -
  rcases (drop_cases a0 v3 hi4).symm with ⟨hi4', _, hd7⟩ | ⟨x6, hi4', hx5, hd7⟩
  · rw [hd7] at h
    simp only [ref29_SameDeliveries_L1] at h
    refine Wk_seq (Wk_seq (Wk_regionZ fun Z hZ => ?_))
    simp only [go_sem, seval, hi4']
    refine hZ _ (pp ?_)
    try simp only [Int.ofNat_lt, hi4', if_true, if_false] at h
    refine Wk_cond_f rfl (Wk_exit (pp (Wk_seq (Wk_regionZ fun Z hZ => ?_))))
    simp only [go_sem, seval]
    refine hZ _ (pp (Wk_ret (pp ?_)))
    cases h
    simp only [go_sem, seval]
    exact ⟨_, rfl, RokI.h, PureI.h⟩
  rw [hd7] at h
  simp only [ref29_SameDeliveries_L1] at h
  have hw6 := wrap_succ hi4' hl2
  refine Wk_seq (Wk_seq (Wk_regionZ fun Z hZ => ?_))
  simp only [go_sem, seval, hi4']
  refine hZ _ (pp ?_)
  try simp only [Int.ofNat_lt, hi4', if_true, if_false] at h
  refine Wk_cond_t rfl (Wk_skip (pp (Wk_seq (Wk_block (Wk_seq ?_)))))
  try rw [gx_nat hx5] at h
  obtain ⟨x1, hb8, hx9, h⟩ := gx_some h
  try simp only [Int.toNat_natCast] at hx9
  try simp only [Int.ofNat_lt, Int.natCast_nonneg, true_and] at hb8
  refine Wk_regionD fun Z hZ => ?_
  simp only [go_sem, seval, hx5, hi4', hb8, hx9]
  refine hZ _ (by kernel_rfl) (pp (Wk_cond_nbool rfl (fun hc10 => ?_) (fun hc10 => ?_)))
  · rw [if_neg (ne_true_of_eq_false hc10)] at h
    refine Wk_seq (Wk_regionZ fun Z hZ => ?_)
    simp only [go_sem, seval, hc10]
    refine hZ _ (pp (Wk_ret (pp ?_)))
    cases h
    simp only [go_sem, seval]
    exact ⟨_, rfl, RokI.h, PureI.h⟩
  rw [if_pos hc10] at h
  refine Wk_skip (pp (Wk_regionZ fun Z hZ => ?_))
  simp only [go_sem, seval, hw6, hc10]
  refine hZ _ (pp ?_)
  first | refine ⟨(), ?_, h⟩ | refine ⟨hi4', (), ?_, h⟩
  refine weak_roots ?_ ?_ <;> repeat' first | exact xn | exact rn | refine xc ?_ ?_ | refine rc ?_ ?_ ?_ | rfl
def fs_ref29_SameDeliveries (N : Nat) : FnS := ⟨[], true, fn2 (decL 5 Delivery.dec) (decL 5 Delivery.dec) fun q0 q1 => (ref29_SameDeliveries N q0 q1).map fun r => .val (.bool r), false⟩
attribute [go_sem] fs_ref29_SameDeliveries
theorem fs_ref29_SameDeliveries_ok (N : Nat) : FSOk Try.prog 18 (fs_ref29_SameDeliveries N) := ok2 (fun q0 q1 r h => by
  obtain ⟨r', hr, rfl⟩ := Option.map_eq_some_iff.1 h
  exact w_ref29_SameDeliveries N q0 q1 r' hr) (fun h => decL_le Delivery.dec_le h) (fun h => decL_le Delivery.dec_le h)


theorem w_ref29_SameTopic (N : Nat) (a0 : Topic) (a1 : Topic) (r : Bool) (h : ref29_SameTopic N a0 a1 = some r) : Con Try.prog 20 [] true [.agg (Topic.row a0), .agg (Topic.row a1)] (.val (.bool r)) := by
  refine fun_ok4 (G := (glist [])) Try.func20 rfl (by decide) (by kernel_rfl) gn [] mix (Nat.le_of_ble_eq_true rfl) ?_
  simp only [Try.f20]
  unfold ref29_SameTopic at h
  refine Wk_seq (Wk_regionZ fun Z hZ => ?_)
  simp only [go_sem, seval]
  refine hZ _ (pp (Wk_seq ?_))
  apply Wk_join1 (fun (c3 : Bool) => ⟨tab 73 (updT (updT (updT deadT 2 (.pref 2 [] 0 0)) 3 (.pref 3 [] 0 0)) 36 (.val (.bool c3))), (upd (upd RZ 2 (.sl true none 4 (some 1) [Topic.row a0])) 3 (.sl true none 4 (some 1) [Topic.row a1]))⟩)
  · intro hJ1
    refine Wk_regionZ fun Z hZ => ?_
    simp only [go_sem, seval]
    refine RX_guard_nbool rfl (fun hc2 => ?_) (fun hc2 => ?_)
    · rw [if_neg (ne_true_of_eq_false hc2)] at h
      simp only [go_sem, seval, hc2]
      refine hZ _ (pp (hJ1 _ true ?_ h))
      refine weak_roots ?_ ?_ <;> repeat' first | exact xn | exact rn | refine xc ?_ ?_ | refine rc ?_ ?_ ?_ | rfl
    rw [if_pos hc2] at h
    simp only [go_sem, seval, hc2]
    refine RX_guard_ndec rfl (fun hc3 => ?_) (fun hc3 => ?_)
    · have hc3d := decide_eq_false hc3
      rw [if_neg hc3] at h
      simp only [go_sem, seval, hc3d]
      refine hZ _ (pp (hJ1 _ true ?_ h))
      refine weak_roots ?_ ?_ <;> repeat' first | exact xn | exact rn | refine xc ?_ ?_ | refine rc ?_ ?_ ?_ | rfl
    have hc3d := decide_eq_true hc3
    rw [if_pos hc3] at h
    simp only [go_sem, seval, hc3d]
    refine RX_guard_ndec rfl (fun hc4 => ?_) (fun hc4 => ?_)
    · have hc4d := decide_eq_false hc4
      rw [if_neg hc4] at h
      simp only [go_sem, seval, hc4d]
      refine hZ _ (pp (hJ1 _ true ?_ h))
      refine weak_roots ?_ ?_ <;> repeat' first | exact xn | exact rn | refine xc ?_ ?_ | refine rc ?_ ?_ ?_ | rfl
    have hc4d := decide_eq_true hc4
    rw [if_pos hc4] at h
    simp only [go_sem, seval, hc4d]
    refine hZ _ (pp (hJ1 _ (!decide (((a0.Subs.length : Nat) : Int) = ((a1.Subs.length : Nat) : Int))) ?_ h))
    refine weak_roots ?_ ?_ <;> repeat' first | exact xn | exact rn | refine xc ?_ ?_ | refine rc ?_ ?_ ?_ | rfl
  intro c3 h
  unfold ref29_SameTopic_J1 at h
  refine Wk_cond_bool rfl (fun hc5 => ?_) (fun hc5 => ?_)
  · rw [if_pos hc5] at h
    refine Wk_seq (Wk_regionZ fun Z hZ => ?_)
    simp only [go_sem, seval, hc5]
    refine hZ _ (pp (Wk_ret (pp ?_)))
    cases h
    simp only [go_sem, seval]
    exact ⟨_, rfl, RokI.h, PureI.h⟩
  rw [if_neg (ne_true_of_eq_false hc5)] at h
  refine Wk_skip (pp ?_)
  unfold ref29_SameTopic_J3 at h
  refine Wk_seq (Wk_seq (Wk_regionZ fun Z hZ => ?_))
  simp only [go_sem, seval, hc5]
  refine hZ _ (pp (Wk_block (Wk_real fun hreal7 => ?_)))
  have hl6 := hreal7.cell 2 2 (by simp only [go_sem, seval]; rfl) rfl
  rw [List.length_map] at hl6
  refine Wk_range (fun (v5 : Nat) (b : Unit) => ⟨tab 73 (updT (updT (updT deadT 2 (.pref 2 [] 0 0)) 3 (.pref 3 [] 0 0)) 5 (.val (.int .i64 ((v5 : Nat) : Int)))), (upd (upd RZ 2 (.sl true none 4 (some 1) [Topic.row a0])) 3 (.sl true none 4 (some 1) [Topic.row a1]))⟩) () h ?_ ?_
  · refine weak_roots ?_ ?_ <;> repeat' first | exact xn | exact rn | refine xc ?_ ?_ | refine rc ?_ ?_ ?_ | rfl
  rintro v5 ⟨⟩ hi8 h -
  rcases (drop_cases a0.Events v5 hi8) with ⟨x8, hi8', hx9, hd11⟩ | ⟨hi8', _, hd11⟩
  · rw [hd11] at h
    simp only [ref29_SameTopic_L1] at h
    have hw10 := wrap_succ hi8' hl6
    refine Wk_seq (Wk_seq (Wk_regionZ fun Z hZ => ?_))
    simp only [go_sem, seval, hi8']
    refine hZ _ (pp ?_)
    try simp only [Int.ofNat_lt, hi8', if_true, if_false] at h
    refine Wk_cond_t rfl (Wk_skip (pp (Wk_seq (Wk_block (Wk_seq ?_)))))
    try rw [gx_nat hx9] at h
    obtain ⟨x11, hb12, hx13, h⟩ := gx_some h
    try simp only [Int.toNat_natCast] at hx13
    try simp only [Int.ofNat_lt, Int.natCast_nonneg, true_and] at hb12
    refine Wk_regionD fun Z hZ => ?_
    simp only [go_sem, seval, hx9, hi8', hb12, hx13]
    refine hZ _ (by kernel_rfl) (pp (Wk_cond_ndec rfl (fun hc14 => ?_) (fun hc14 => ?_)))
    · have hc14d := decide_eq_false hc14
      rw [if_neg hc14] at h
      refine Wk_seq (Wk_regionZ fun Z hZ => ?_)
      simp only [go_sem, seval, hc14d]
      refine hZ _ (pp (Wk_ret (pp ?_)))
      cases h
      simp only [go_sem, seval]
      exact ⟨_, rfl, RokI.h, PureI.h⟩
    have hc14d := decide_eq_true hc14
    rw [if_pos hc14] at h
    refine Wk_skip (pp (Wk_regionZ fun Z hZ => ?_))
    simp only [go_sem, seval, hw10, hc14d]
    refine hZ _ (pp ?_)
    first | refine ⟨(), ?_, h⟩ | refine ⟨hi8', (), ?_, h⟩
    refine weak_roots ?_ ?_ <;> repeat' first | exact xn | exact rn | refine xc ?_ ?_ | refine rc ?_ ?_ ?_ | rfl
  rw [hd11] at h
  simp only [ref29_SameTopic_L1] at h
  refine Wk_seq (Wk_seq (Wk_regionZ fun Z hZ => ?_))
  simp only [go_sem, seval, hi8']
  refine hZ _ (pp ?_)
  try simp only [Int.ofNat_lt, hi8', if_true, if_false] at h
  refine Wk_cond_f rfl (Wk_exit (pp ?_))
  unfold ref29_SameTopic_J2 at h
  refine Wk_seq (Wk_seq (Wk_regionZ fun Z hZ => ?_))
  simp only [go_sem, seval]
  refine hZ _ (pp (Wk_block (Wk_real fun hreal16 => ?_)))
  have hl15 := hreal16.cell 2 3 (by simp only [go_sem, seval]; rfl) rfl
  rw [List.length_map] at hl15
  refine Wk_range (fun (v13 : Nat) (b : Unit) => ⟨tab 73 (updT (updT (updT deadT 2 (.pref 2 [] 0 0)) 3 (.pref 3 [] 0 0)) 6 (.val (.int .i64 ((v13 : Nat) : Int)))), (upd (upd RZ 2 (.sl true none 4 (some 1) [Topic.row a0])) 3 (.sl true none 4 (some 1) [Topic.row a1]))⟩) () h ?_ ?_
  · refine weak_roots ?_ ?_ <;> repeat' first | exact xn | exact rn | refine xc ?_ ?_ | refine rc ?_ ?_ ?_ | rfl
  rintro v13 ⟨⟩ hi17 h -
  rcases (drop_cases a0.Subs v13 hi17).symm with ⟨hi17', _, hd20⟩ | ⟨x16, hi17', hx18, hd20⟩
  · rw [hd20] at h
    simp only [ref29_SameTopic_L2] at h
    refine Wk_seq (Wk_seq (Wk_regionZ fun Z hZ => ?_))
    simp only [go_sem, seval, hi17']
    refine hZ _ (pp ?_)
    try simp only [Int.ofNat_lt, hi8', hi17', if_true, if_false] at h
    refine Wk_cond_f rfl (Wk_exit (pp (Wk_seq (Wk_regionZ fun Z hZ => ?_))))
    simp only [go_sem, seval]
    refine hZ _ (pp (Wk_ret (pp ?_)))
    cases h
    simp only [go_sem, seval]
    exact ⟨_, rfl, RokI.h, PureI.h⟩
  rw [hd20] at h
  simp only [ref29_SameTopic_L2] at h
  have hw19 := wrap_succ hi17' hl15
  refine Wk_seq (Wk_seq (Wk_regionZ fun Z hZ => ?_))
  simp only [go_sem, seval, hi17']
  refine hZ _ (pp ?_)
  try simp only [Int.ofNat_lt, hi8', hi17', if_true, if_false] at h
  refine Wk_cond_t rfl (Wk_skip (pp (Wk_seq (Wk_block (Wk_seq ?_)))))
  try rw [gx_nat hx18] at h
  obtain ⟨x12, hb21, hx22, h⟩ := gx_some h
  try simp only [Int.toNat_natCast] at hx22
  try simp only [Int.ofNat_lt, Int.natCast_nonneg, true_and] at hb21
  refine Wk_regionD fun Z hZ => ?_
  simp only [go_sem, seval, hx18, hi17', hb21, hx22]
  refine hZ _ (by kernel_rfl) (pp (Wk_cond_nbool rfl (fun hc23 => ?_) (fun hc23 => ?_)))
  · rw [if_neg (ne_true_of_eq_false hc23)] at h
    refine Wk_seq (Wk_regionZ fun Z hZ => ?_)
    simp only [go_sem, seval, hc23]
    refine hZ _ (pp (Wk_ret (pp ?_)))
    cases h
    simp only [go_sem, seval]
    exact ⟨_, rfl, RokI.h, PureI.h⟩
  rw [if_pos hc23] at h
  refine Wk_skip (pp (Wk_regionZ fun Z hZ => ?_))
  simp only [go_sem, seval, hw19, hc23]
  refine hZ _ (pp ?_)
  first | refine ⟨(), ?_, h⟩ | refine ⟨hi17', (), ?_, h⟩
  refine weak_roots ?_ ?_ <;> repeat' first | exact xn | exact rn | refine xc ?_ ?_ | refine rc ?_ ?_ ?_ | rfl
def fs_ref29_SameTopic (N : Nat) : FnS := ⟨[], true, fn2 Topic.decA Topic.decA fun q0 q1 => (ref29_SameTopic N q0 q1).map fun r => .val (.bool r), false⟩
attribute [go_sem] fs_ref29_SameTopic
theorem fs_ref29_SameTopic_ok (N : Nat) : FSOk Try.prog 20 (fs_ref29_SameTopic N) := ok2 (fun q0 q1 r h => by
  obtain ⟨r', hr, rfl⟩ := Option.map_eq_some_iff.1 h
  exact w_ref29_SameTopic N q0 q1 r' hr) (Topic.decA_le) (Topic.decA_le)


theorem w_law30_ref (N : Nat) (a0 : Int) (r : Ref × ByteArray) (h : law30_ref N a0 = some r) : Con Try.prog 12 [] true [.val (.int .u8 a0)] (.tup [.agg (Ref.row r.1), .val (.string r.2)]) := by
  refine fun_ok4 (G := (glist [])) Try.func12 rfl (by decide) (by kernel_rfl) gn [] mix (Nat.le_of_ble_eq_true rfl) ?_
  simp only [Try.f12]
  unfold law30_ref at h
  refine Wk_seq (Wk_regionZ fun Z hZ => ?_)
  simp only [go_sem, seval]
  refine hZ _ (pp (Wk_seq (Wk_regionZ fun Z hZ => ?_)))
  simp only [go_sem, seval]
  refine hZ _ (pp (Wk_seq ?_))
  obtain ⟨hs1, h⟩ := sls_some h
  simp only [ByteArray.size, List.size_toArray, List.length_cons, List.length_nil, Nat.reduceAdd] at hs1
  obtain ⟨hs2, h⟩ := sls_some h
  simp only [ByteArray.size, List.size_toArray, List.length_cons, List.length_nil, Nat.reduceAdd] at hs2
  refine Wk_regionD fun Z hZ => ?_
  simp only [go_sem, seval, hs1, hs2]
  repeat with_reducible refine and_bar (by kernel_rfl) ?_
  refine hZ _ (by kernel_rfl) (pp (Wk_ret (pp ?_)))
  cases h
  simp only [go_sem, seval]
  exact ⟨_, rfl, RokI.h, PureI.h⟩
def fs_law30_ref (N : Nat) : FnS := ⟨[], true, fn1 (decI .u8) fun q0 => (law30_ref N q0).map fun r => .tup [.agg (Ref.row r.1), .val (.string r.2)], false⟩
attribute [go_sem] fs_law30_ref
theorem fs_law30_ref_ok (N : Nat) : FSOk Try.prog 12 (fs_law30_ref N) := ok1 (fun q0 r h => by
  obtain ⟨r', hr, rfl⟩ := Option.map_eq_some_iff.1 h
  exact w_law30_ref N q0 r' hr) (decI_le)


theorem w_ref16_ValidName (N : Nat) (a0 : ByteArray) (r : Bool) (h : ref16_ValidName N a0 = some r) : Con Try.prog 22 [] true [.val (.string a0)] (.val (.bool r)) := by
  refine fun_ok4 (G := (glist [])) Try.func22 rfl (by decide) (by kernel_rfl) gn [] mix (Nat.le_of_ble_eq_true rfl) ?_
  simp only [Try.f22]
  unfold ref16_ValidName at h
  refine Wk_seq (Wk_regionZ fun Z hZ => ?_)
  simp only [go_sem, seval]
  refine hZ _ (pp (Wk_seq (Wk_regionZ fun Z hZ => ?_)))
  simp only [go_sem, seval]
  refine RX_guard_dec rfl (fun hc1 => ?_) (fun hc1 => ?_)
  · have hc1d := decide_eq_true hc1
    rw [if_pos hc1] at h
    simp only [go_sem, seval, hc1d]
    refine hZ _ (pp (Wk_ret (pp ?_)))
    cases h
    simp only [go_sem, seval]
    exact ⟨_, rfl, RokI.h, PureI.h⟩
  have hc1d := decide_eq_false hc1
  rw [if_neg hc1] at h
  simp only [go_sem, seval, hc1d]
  refine hZ _ (pp (Wk_ret (pp ?_)))
  cases h
  simp only [go_sem, seval]
  exact ⟨_, rfl, RokI.h, PureI.h⟩
def fs_ref16_ValidName (N : Nat) : FnS := ⟨[], true, fn1 decS fun q0 => (ref16_ValidName N q0).map fun r => .val (.bool r), false⟩
attribute [go_sem] fs_ref16_ValidName
theorem fs_ref16_ValidName_ok (N : Nat) : FSOk Try.prog 22 (fs_ref16_ValidName N) := ok1 (fun q0 r h => by
  obtain ⟨r', hr, rfl⟩ := Option.map_eq_some_iff.1 h
  exact w_ref16_ValidName N q0 r' hr) (decS_le)


theorem w_ref14_ValidRef (N : Nat) (a0 : Ref) (r : Bool) (h : ref14_ValidRef N a0 = some r) : Con Try.prog 36 [] true [.agg [.val (.string a0.Type_), .val (.string a0.Key)]] (.val (.bool r)) := by
  refine fun_ok4 (G := (glist [])) Try.func36 rfl (by decide) (by kernel_rfl) gn [] mix (Nat.le_of_ble_eq_true rfl) ?_
  simp only [Try.f36]
  unfold ref14_ValidRef at h
  refine Wk_seq (Wk_regionZ fun Z hZ => ?_)
  simp only [go_sem, seval]
  refine hZ _ (pp (Wk_seq (Wk_regionZ fun Z hZ => ?_)))
  simp only [go_sem, seval]
  refine sw (RX_guard_dec rfl) (fun hc1 => ?_) (fun hc1 => ?_)
  · have hc1d := decide_eq_false hc1
    rw [if_neg hc1] at h
    simp only [go_sem, seval, hc1d]
    refine hZ _ (pp (Wk_ret (pp ?_)))
    cases h
    simp only [go_sem, seval]
    exact ⟨_, rfl, RokI.h, PureI.h⟩
  have hc1d := decide_eq_true hc1
  rw [if_pos hc1] at h
  simp only [go_sem, seval, hc1d]
  refine RX_guard_dec rfl (fun hc2 => ?_) (fun hc2 => ?_)
  · have hc2d := decide_eq_true hc2
    rw [if_pos hc2] at h
    simp only [go_sem, seval, hc2d]
    refine hZ _ (pp (Wk_ret (pp ?_)))
    cases h
    simp only [go_sem, seval]
    exact ⟨_, rfl, RokI.h, PureI.h⟩
  have hc2d := decide_eq_false hc2
  rw [if_neg hc2] at h
  simp only [go_sem, seval, hc2d]
  refine hZ _ (pp (Wk_ret (pp ?_)))
  cases h
  simp only [go_sem, seval]
  exact ⟨_, rfl, RokI.h, PureI.h⟩
def fs_ref14_ValidRef (N : Nat) : FnS := ⟨[], true, fn1 Ref.decA fun q0 => (ref14_ValidRef N q0).map fun r => .val (.bool r), false⟩
attribute [go_sem] fs_ref14_ValidRef
theorem fs_ref14_ValidRef_ok (N : Nat) : FSOk Try.prog 36 (fs_ref14_ValidRef N) := ok1 (fun q0 r h => by
  obtain ⟨r', hr, rfl⟩ := Option.map_eq_some_iff.1 h
  exact w_ref14_ValidRef N q0 r' hr) (Ref.decA_le)


theorem w_ref14_Less (N : Nat) (a0 : Ref) (a1 : Ref) (r : Bool) (h : ref14_Less N a0 a1 = some r) : Con Try.prog 47 [] true [.agg [.val (.string a0.Type_), .val (.string a0.Key)], .agg [.val (.string a1.Type_), .val (.string a1.Key)]] (.val (.bool r)) := by
  refine fun_ok4 (G := (glist [])) Try.func47 rfl (by decide) (by kernel_rfl) gn [] mix (Nat.le_of_ble_eq_true rfl) ?_
  simp only [Try.f47]
  unfold ref14_Less at h
  refine Wk_seq (Wk_regionZ fun Z hZ => ?_)
  simp only [go_sem, seval]
  refine hZ _ (pp (Wk_seq (Wk_regionZ fun Z hZ => ?_)))
  simp only [go_sem, seval]
  refine RX_guard_bool rfl (fun hc1 => ?_) (fun hc1 => ?_)
  · rw [if_pos hc1] at h
    simp only [go_sem, seval, hc1]
    refine hZ _ (pp (Wk_ret (pp ?_)))
    cases h
    simp only [go_sem, seval]
    exact ⟨_, rfl, RokI.h, PureI.h⟩
  rw [if_neg (ne_true_of_eq_false hc1)] at h
  simp only [go_sem, seval, hc1]
  refine RX_guard_bool rfl (fun hc2 => ?_) (fun hc2 => ?_)
  · rw [if_pos hc2] at h
    simp only [go_sem, seval, hc2]
    refine hZ _ (pp (Wk_ret (pp ?_)))
    cases h
    simp only [go_sem, seval]
    exact ⟨_, rfl, RokI.h, PureI.h⟩
  rw [if_neg (ne_true_of_eq_false hc2)] at h
  simp only [go_sem, seval, hc2]
  refine hZ _ (pp (Wk_ret (pp ?_)))
  cases h
  simp only [go_sem, seval]
  exact ⟨_, rfl, RokI.h, PureI.h⟩
def fs_ref14_Less (N : Nat) : FnS := ⟨[], true, fn2 Ref.decA Ref.decA fun q0 q1 => (ref14_Less N q0 q1).map fun r => .val (.bool r), false⟩
attribute [go_sem] fs_ref14_Less
theorem fs_ref14_Less_ok (N : Nat) : FSOk Try.prog 47 (fs_ref14_Less N) := ok2 (fun q0 q1 r h => by
  obtain ⟨r', hr, rfl⟩ := Option.map_eq_some_iff.1 h
  exact w_ref14_Less N q0 q1 r' hr) (Ref.decA_le) (Ref.decA_le)


noncomputable def G_ref29_lessSub (N d f : Nat) : Option FnS := glist [(11, 47, fs_ref14_Less N)] d f
attribute [go_sem] G_ref29_lessSub
theorem w_ref29_lessSub (N : Nat) (a0 : Ref) (a1 : Ref) (a2 : ByteArray) (a3 : ByteArray) (r : Bool) (h : ref29_lessSub N a0 a1 a2 a3 = some r) : Con Try.prog 44 [] true [.agg [.val (.string a0.Type_), .val (.string a0.Key)], .agg [.val (.string a1.Type_), .val (.string a1.Key)], .val (.string a2), .val (.string a3)] (.val (.bool r)) := by
  refine fun_ok4 (G := (G_ref29_lessSub N)) Try.func44 rfl (by decide) (by kernel_rfl) (gc 11 (fs_ref14_Less_ok N) gn) [] mix (Nat.le_of_ble_eq_true rfl) ?_
  simp only [Try.f44]
  unfold ref29_lessSub at h
  refine Wk_seq (Wk_regionZ fun Z hZ => ?_)
  simp only [go_sem, seval]
  refine hZ _ (pp (Wk_seq ?_))
  obtain ⟨r1, hr1, h⟩ := Option.bind_eq_some_iff.1 h
  refine Wk_regionZ fun Z hZ => ?_
  simp only [go_sem, seval, hr1]
  refine RX_guard_bool rfl (fun hc2 => ?_) (fun hc2 => ?_)
  · rw [if_pos hc2] at h
    simp only [go_sem, seval, hc2]
    refine hZ _ (pp (Wk_ret (pp ?_)))
    cases h
    simp only [go_sem, seval]
    exact ⟨_, rfl, RokI.h, PureI.h⟩
  rw [if_neg (ne_true_of_eq_false hc2)] at h
  simp only [go_sem, seval, hc2]
  refine RX_guard_bool rfl (fun hc3 => ?_) (fun hc3 => ?_)
  · rw [if_pos hc3] at h
    simp only [go_sem, seval, hc3]
    refine hZ _ (pp (Wk_ret (pp ?_)))
    cases h
    simp only [go_sem, seval]
    exact ⟨_, rfl, RokI.h, PureI.h⟩
  rw [if_neg (ne_true_of_eq_false hc3)] at h
  simp only [go_sem, seval, hc3]
  refine hZ _ (pp (Wk_ret (pp ?_)))
  cases h
  simp only [go_sem, seval]
  exact ⟨_, rfl, RokI.h, PureI.h⟩
def fs_ref29_lessSub (N : Nat) : FnS := ⟨[], true, fn4 Ref.decA Ref.decA decS decS fun q0 q1 q2 q3 => (ref29_lessSub N q0 q1 q2 q3).map fun r => .val (.bool r), false⟩
attribute [go_sem] fs_ref29_lessSub
theorem fs_ref29_lessSub_ok (N : Nat) : FSOk Try.prog 44 (fs_ref29_lessSub N) := ok4 (fun q0 q1 q2 q3 r h => by
  obtain ⟨r', hr, rfl⟩ := Option.map_eq_some_iff.1 h
  exact w_ref29_lessSub N q0 q1 q2 q3 r' hr) (Ref.decA_le) (Ref.decA_le) (decS_le) (decS_le)


noncomputable def G_ref29_ValidTopic (N d f : Nat) : Option FnS := glist [(7, 22, fs_ref16_ValidName N), (49, 36, fs_ref14_ValidRef N), (54, 22, fs_ref16_ValidName N), (96, 44, fs_ref29_lessSub N)] d f
attribute [go_sem] G_ref29_ValidTopic
theorem w_ref29_ValidTopic (N : Nat) (a0 : Topic) (r : Bool) (h : ref29_ValidTopic N a0 = some r) : Con Try.prog 34 [] true [.agg (Topic.row a0)] (.val (.bool r)) := by
  refine fun_ok4 (G := (G_ref29_ValidTopic N)) Try.func34 rfl (by decide) (by kernel_rfl) (gc 7 (fs_ref16_ValidName_ok N) (gc 49 (fs_ref14_ValidRef_ok N) (gc 54 (fs_ref16_ValidName_ok N) (gc 96 (fs_ref29_lessSub_ok N) gn)))) [] mix (Nat.le_of_ble_eq_true rfl) ?_
  simp only [Try.f34]
  unfold ref29_ValidTopic at h
  refine Wk_seq (Wk_regionZ fun Z hZ => ?_)
  simp only [go_sem, seval]
  refine hZ _ (pp (Wk_seq ?_))
  apply Wk_join1 (fun (c5 : Bool) => ⟨tab 99 (updT (updT deadT 1 (.pref 1 [] 0 0)) 34 (.val (.bool c5))), (upd RZ 1 (.sl true none 4 (some 1) [Topic.row a0]))⟩)
  · intro hJ1
    obtain ⟨r6, hr2, h⟩ := Option.bind_eq_some_iff.1 h
    refine Wk_regionZ fun Z hZ => ?_
    simp only [go_sem, seval, hr2]
    refine RX_guard_nbool rfl (fun hc3 => ?_) (fun hc3 => ?_)
    · rw [if_neg (ne_true_of_eq_false hc3)] at h
      simp only [go_sem, seval, hc3]
      refine hZ _ (pp (hJ1 _ true ?_ h))
      refine weak_roots ?_ ?_ <;> repeat' first | exact xn | exact rn | refine xc ?_ ?_ | refine rc ?_ ?_ ?_ | rfl
    rw [if_pos hc3] at h
    simp only [go_sem, seval, hc3]
    refine RX_guard_dec rfl (fun hc4 => ?_) (fun hc4 => ?_)
    · have hc4d := decide_eq_true hc4
      rw [if_pos hc4] at h
      simp only [go_sem, seval, hc4d]
      refine hZ _ (pp (hJ1 _ true ?_ h))
      refine weak_roots ?_ ?_ <;> repeat' first | exact xn | exact rn | refine xc ?_ ?_ | refine rc ?_ ?_ ?_ | rfl
    have hc4d := decide_eq_false hc4
    rw [if_neg hc4] at h
    simp only [go_sem, seval, hc4d]
    refine RX_guard_dec rfl (fun hc5 => ?_) (fun hc5 => ?_)
    · have hc5d := decide_eq_true hc5
      rw [if_pos hc5] at h
      simp only [go_sem, seval, hc5d]
      refine hZ _ (pp (hJ1 _ true ?_ h))
      refine weak_roots ?_ ?_ <;> repeat' first | exact xn | exact rn | refine xc ?_ ?_ | refine rc ?_ ?_ ?_ | rfl
    have hc5d := decide_eq_false hc5
    rw [if_neg hc5] at h
    simp only [go_sem, seval, hc5d]
    refine RX_guard_dec rfl (fun hc6 => ?_) (fun hc6 => ?_)
    · have hc6d := decide_eq_true hc6
      rw [if_pos hc6] at h
      simp only [go_sem, seval, hc6d]
      refine hZ _ (pp (hJ1 _ true ?_ h))
      refine weak_roots ?_ ?_ <;> repeat' first | exact xn | exact rn | refine xc ?_ ?_ | refine rc ?_ ?_ ?_ | rfl
    have hc6d := decide_eq_false hc6
    rw [if_neg hc6] at h
    simp only [go_sem, seval, hc6d]
    refine hZ _ (pp (hJ1 _ (decide (8 < ((a0.Subs.length : Nat) : Int))) ?_ h))
    refine weak_roots ?_ ?_ <;> repeat' first | exact xn | exact rn | refine xc ?_ ?_ | refine rc ?_ ?_ ?_ | rfl
  intro c5 h
  unfold ref29_ValidTopic_J1 at h
  refine Wk_cond_bool rfl (fun hc7 => ?_) (fun hc7 => ?_)
  · rw [if_pos hc7] at h
    refine Wk_seq (Wk_regionZ fun Z hZ => ?_)
    simp only [go_sem, seval, hc7]
    refine hZ _ (pp (Wk_ret (pp ?_)))
    cases h
    simp only [go_sem, seval]
    exact ⟨_, rfl, RokI.h, PureI.h⟩
  rw [if_neg (ne_true_of_eq_false hc7)] at h
  refine Wk_skip (pp ?_)
  unfold ref29_ValidTopic_J5 at h
  refine Wk_seq (Wk_seq (Wk_regionZ fun Z hZ => ?_))
  simp only [go_sem, seval, hc7]
  refine hZ _ (pp (Wk_block (Wk_real fun hreal9 => ?_)))
  have hl8 := hreal9.cell 1 3 (by simp only [go_sem, seval]; rfl) rfl
  rw [List.length_map] at hl8
  refine Wk_range (fun (v6 : Nat) (b : Unit) => ⟨tab 99 (updT (updT deadT 1 (.pref 1 [] 0 0)) 3 (.val (.int .i64 ((v6 : Nat) : Int)))), (upd RZ 1 (.sl true none 4 (some 1) [Topic.row a0]))⟩) () h ?_ ?_
  · refine weak_roots ?_ ?_ <;> repeat' first | exact xn | exact rn | refine xc ?_ ?_ | refine rc ?_ ?_ ?_ | rfl
  rintro v6 ⟨⟩ hi10 h -
  rcases (drop_cases a0.Subs v6 hi10).symm with ⟨hi10', _, hd13⟩ | ⟨x9, hi10', hx11, hd13⟩
  · rw [hd13] at h
    simp only [ref29_ValidTopic_L1] at h
    refine Wk_seq (Wk_seq (Wk_regionZ fun Z hZ => ?_))
    simp only [go_sem, seval, hi10']
    refine hZ _ (pp ?_)
    try simp only [Int.ofNat_lt, hi10', if_true, if_false] at h
    refine Wk_cond_f rfl (Wk_exit (pp (Wk_seq (Wk_regionZ fun Z hZ => ?_))))
    simp only [go_sem, seval]
    refine hZ _ (pp (Wk_ret (pp ?_)))
    cases h
    simp only [go_sem, seval]
    exact ⟨_, rfl, RokI.h, PureI.h⟩
  rw [hd13] at h
  simp only [ref29_ValidTopic_L1] at h
  have hw12 := wrap_succ hi10' hl8
  refine Wk_seq (Wk_seq (Wk_regionZ fun Z hZ => ?_))
  simp only [go_sem, seval, hi10']
  refine hZ _ (pp ?_)
  try simp only [Int.ofNat_lt, hi10', if_true, if_false] at h
  refine Wk_cond_t rfl (Wk_skip (pp (Wk_seq (Wk_block (Wk_seq ?_)))))
  try rw [gx_nat hx11] at h
  refine Wk_regionZ fun Z hZ => ?_
  simp only [go_sem, seval, hx11, hi10']
  refine hZ _ (pp (Wk_seq ?_))
  apply Wk_join1 (fun (c13 : Bool) => ⟨tab 99 (updT (updT (updT (updT deadT 1 (.pref 1 [] 0 0)) 3 (.val (.int .i64 ((v6 : Nat) : Int)))) 4 (.pref 4 [] 0 0)) 74 (.val (.bool c13))), (upd (upd RZ 1 (.sl true none 4 (some 1) [Topic.row a0])) 4 (.sl true none 4 (some 1) [Sub.row x9]))⟩)
  · intro hJ14
    obtain ⟨r14, hr15, h⟩ := Option.bind_eq_some_iff.1 h
    refine Wk_regionZ fun Z hZ => ?_
    simp only [go_sem, seval, hr15]
    refine RX_guard_nbool rfl (fun hc16 => ?_) (fun hc16 => ?_)
    · rw [if_neg (ne_true_of_eq_false hc16)] at h
      simp only [go_sem, seval, hc16]
      refine hZ _ (pp (hJ14 _ true ?_ h))
      refine weak_roots ?_ ?_ <;> repeat' first | exact xn | exact rn | refine xc ?_ ?_ | refine rc ?_ ?_ ?_ | rfl
    rw [if_pos hc16] at h
    obtain ⟨r15, hr17, h⟩ := Option.bind_eq_some_iff.1 h
    simp only [go_sem, seval, hc16, hr17]
    refine RX_guard_nbool rfl (fun hc18 => ?_) (fun hc18 => ?_)
    · rw [if_neg (ne_true_of_eq_false hc18)] at h
      simp only [go_sem, seval, hc18]
      refine hZ _ (pp (hJ14 _ true ?_ h))
      refine weak_roots ?_ ?_ <;> repeat' first | exact xn | exact rn | refine xc ?_ ?_ | refine rc ?_ ?_ ?_ | rfl
    rw [if_pos hc18] at h
    simp only [go_sem, seval, hc18]
    refine RX_guard_dec rfl (fun hc19 => ?_) (fun hc19 => ?_)
    · have hc19d := decide_eq_true hc19
      rw [if_pos hc19] at h
      simp only [go_sem, seval, hc19d]
      refine hZ _ (pp (hJ14 _ true ?_ h))
      refine weak_roots ?_ ?_ <;> repeat' first | exact xn | exact rn | refine xc ?_ ?_ | refine rc ?_ ?_ ?_ | rfl
    have hc19d := decide_eq_false hc19
    rw [if_neg hc19] at h
    simp only [go_sem, seval, hc19d]
    refine hZ _ (pp (hJ14 _ (decide ((IntKind.i64.wrap (a0.First + ((a0.Events.length : Nat) : Int))) < x9.Cursor)) ?_ h))
    refine weak_roots ?_ ?_ <;> repeat' first | exact xn | exact rn | refine xc ?_ ?_ | refine rc ?_ ?_ ?_ | rfl
  intro c13 h
  unfold ref29_ValidTopic_J2 at h
  refine Wk_cond_bool rfl (fun hc20 => ?_) (fun hc20 => ?_)
  · rw [if_pos hc20] at h
    refine Wk_seq (Wk_regionZ fun Z hZ => ?_)
    simp only [go_sem, seval, hc20]
    refine hZ _ (pp (Wk_ret (pp ?_)))
    cases h
    simp only [go_sem, seval]
    exact ⟨_, rfl, RokI.h, PureI.h⟩
  rw [if_neg (ne_true_of_eq_false hc20)] at h
  refine Wk_skip (pp ?_)
  unfold ref29_ValidTopic_J4 at h
  apply Wk_join1 (fun (c18 : Bool) => ⟨tab 99 (updT (updT (updT deadT 1 (.pref 1 [] 0 0)) 3 (.val (.int .i64 ((v6 : Nat) : Int)))) 98 (.val (.bool c18))), (upd RZ 1 (.sl true none 4 (some 1) [Topic.row a0]))⟩)
  · intro hJ21
    refine Wk_regionD fun Z hZ => ?_
    simp only [go_sem, seval, hc20]
    refine RX_guard_dec rfl (fun hc22 => ?_) (fun hc22 => ?_)
    · have hc22d := decide_eq_true hc22
      rw [if_pos hc22] at h
      obtain ⟨x19, hb23, hx24, h⟩ := gx_some h
      obtain ⟨r20, hr25, h⟩ := Option.bind_eq_some_iff.1 h
      simp only [go_sem, seval, hc22d, hb23, hx24, hr25]
      repeat with_reducible refine and_bar (by kernel_rfl) ?_
      refine hZ _ (by kernel_rfl) (pp (hJ21 _ (!r20) ?_ h))
      refine weak_roots ?_ ?_ <;> repeat' first | exact xn | exact rn | refine xc ?_ ?_ | refine rc ?_ ?_ ?_ | rfl
    have hc22d := decide_eq_false hc22
    rw [if_neg hc22] at h
    simp only [go_sem, seval, hc22d]
    refine hZ _ (by kernel_rfl) (pp (hJ21 _ false ?_ h))
    refine weak_roots ?_ ?_ <;> repeat' first | exact xn | exact rn | refine xc ?_ ?_ | refine rc ?_ ?_ ?_ | rfl
  intro c18 h
  unfold ref29_ValidTopic_J3 at h
  refine Wk_cond_bool rfl (fun hc26 => ?_) (fun hc26 => ?_)
  · rw [if_pos hc26] at h
    refine Wk_seq (Wk_regionZ fun Z hZ => ?_)
    simp only [go_sem, seval, hc26]
    refine hZ _ (pp (Wk_ret (pp ?_)))
    cases h
    simp only [go_sem, seval]
    exact ⟨_, rfl, RokI.h, PureI.h⟩
  rw [if_neg (ne_true_of_eq_false hc26)] at h
  refine Wk_skip (pp (Wk_regionZ fun Z hZ => ?_))
  simp only [go_sem, seval, hw12, hc26]
  refine hZ _ (pp ?_)
  first | refine ⟨(), ?_, h⟩ | refine ⟨hi10', (), ?_, h⟩
  refine weak_roots ?_ ?_ <;> repeat' first | exact xn | exact rn | refine xc ?_ ?_ | refine rc ?_ ?_ ?_ | rfl
def fs_ref29_ValidTopic (N : Nat) : FnS := ⟨[], true, fn1 Topic.decA fun q0 => (ref29_ValidTopic N q0).map fun r => .val (.bool r), false⟩
attribute [go_sem] fs_ref29_ValidTopic
theorem fs_ref29_ValidTopic_ok (N : Nat) : FSOk Try.prog 34 (fs_ref29_ValidTopic N) := ok1 (fun q0 r h => by
  obtain ⟨r', hr, rfl⟩ := Option.map_eq_some_iff.1 h
  exact w_ref29_ValidTopic N q0 r' hr) (Topic.decA_le)


theorem w_ref29_CopyTopic (N : Nat) (a0 : Topic) (r : Topic) (h : ref29_CopyTopic N a0 = some r) : Con Try.prog 35 [] true [.agg (Topic.row a0)] (.agg [.val (.string r.Name), .val (.int .i64 r.First), .sl true none 1 none (r.Events.map (rowI .i64)), .sl true none 4 none (r.Subs.map Sub.row)]) := by
  refine fun_ok4 (G := (glist [])) Try.func35 rfl (by decide) (by kernel_rfl) gn [] mix (Nat.le_of_ble_eq_true rfl) ?_
  simp only [Try.f35]
  unfold ref29_CopyTopic at h
  refine Wk_seq (Wk_regionZ fun Z hZ => ?_)
  simp only [go_sem, seval]
  refine hZ _ (pp (Wk_seq ?_))
  first | obtain ⟨ha1, h⟩ := apn_some h | (obtain ⟨ha1, h⟩ := apx_some h; rw [List.nil_append] at h)
  simp only [Nat.reduceAdd] at ha1
  refine Wk_regionZ fun Z hZ => ?_
  simp only [go_sem, seval, ha1]
  refine hZ _ (pp (Wk_seq ?_))
  first | obtain ⟨ha2, h⟩ := apn_some h | (obtain ⟨ha2, h⟩ := apx_some h; rw [List.nil_append] at h)
  simp only [Nat.reduceAdd] at ha2
  refine Wk_regionZ fun Z hZ => ?_
  simp only [go_sem, seval, ha2]
  refine hZ _ (pp (Wk_seq (Wk_regionZ fun Z hZ => ?_)))
  simp only [go_sem, seval]
  refine hZ _ (pp (Wk_ret (pp ?_)))
  cases h
  simp only [go_sem, seval]
  exact ⟨_, rfl, RokI.h, PureI.h⟩
def fs_ref29_CopyTopic (N : Nat) : FnS := ⟨[], true, fn1 Topic.decA fun q0 => (ref29_CopyTopic N q0).map fun r => .agg (Topic.row r), false⟩
attribute [go_sem] fs_ref29_CopyTopic
theorem fs_ref29_CopyTopic_ok (N : Nat) : FSOk Try.prog 35 (fs_ref29_CopyTopic N) := ok1 (fun q0 r h => by
  obtain ⟨r', hr, rfl⟩ := Option.map_eq_some_iff.1 h
  exact (w_ref29_CopyTopic N q0 r' hr).res (by (try simp only [go_sem]); exact RokI.h)) (Topic.decA_le)

def fso_ref29_CopyTopic (N : Nat) : FnS := ⟨[], true, fn1 Topic.decA fun q0 => (ref29_CopyTopic N q0).map fun r => .agg [.val (.string r.Name), .val (.int .i64 r.First), .sl true none 1 none (r.Events.map (rowI .i64)), .sl true none 4 none (r.Subs.map Sub.row)], false⟩
attribute [go_sem] fso_ref29_CopyTopic
theorem fso_ref29_CopyTopic_ok (N : Nat) : FSOk Try.prog 35 (fso_ref29_CopyTopic N) := ok1 (fun q0 r h => by
  obtain ⟨r', hr, rfl⟩ := Option.map_eq_some_iff.1 h
  exact w_ref29_CopyTopic N q0 r' hr) (Topic.decA_le)


noncomputable def G_ref29_Publish (N d f : Nat) : Option FnS := glist [(9, 34, fs_ref29_ValidTopic N), (28, 35, fso_ref29_CopyTopic N)] d f
attribute [go_sem] G_ref29_Publish
theorem w_ref29_Publish (N : Nat) (a0 : Topic) (a1 : Int) (r : Topic × Int × Int) (h : ref29_Publish N a0 a1 = some r) : Con Try.prog 23 [] true [.agg (Topic.row a0), .val (.int .i64 a1)] (.tup [.agg [.val (.string r.1.Name), .val (.int .i64 r.1.First), .sl true none 1 none (r.1.Events.map (rowI .i64)), .sl true none 4 none (r.1.Subs.map Sub.row)], .val (.int .i64 r.2.1), .val (.int .i64 r.2.2)]) := by
  refine fun_ok4 (G := (G_ref29_Publish N)) Try.func23 rfl (by decide) (by kernel_rfl) (gc 9 (fs_ref29_ValidTopic_ok N) (gc 28 (fso_ref29_CopyTopic_ok N) gn)) [] mix (Nat.le_of_ble_eq_true rfl) ?_
  simp only [Try.f23]
  unfold ref29_Publish at h
  refine Wk_seq (Wk_regionZ fun Z hZ => ?_)
  simp only [go_sem, seval]
  refine hZ _ (pp (Wk_seq (Wk_seq ?_)))
  obtain ⟨r1, hr1, h⟩ := Option.bind_eq_some_iff.1 h
  refine Wk_regionZ fun Z hZ => ?_
  simp only [go_sem, seval, hr1]
  refine hZ _ (pp (Wk_cond_nbool rfl (fun hc2 => ?_) (fun hc2 => ?_)))
  · rw [if_neg (ne_true_of_eq_false hc2)] at h
    refine Wk_seq (Wk_regionZ fun Z hZ => ?_)
    simp only [go_sem, seval, hc2]
    refine hZ _ (pp (Wk_ret (pp ?_)))
    cases h
    simp only [go_sem, seval]
    exact ⟨_, rfl, RokI.h, PureI.h⟩
  rw [if_pos hc2] at h
  refine Wk_skip (pp (Wk_seq (Wk_regionZ fun Z hZ => ?_)))
  simp only [go_sem, seval, hc2]
  refine hZ _ (pp (Wk_seq ?_))
  apply Wk_join1 (fun (c4 : Bool) => ⟨tab 37 (updT (updT (updT (updT (updT deadT 1 (.val (.int .i64 a1))) 2 (.pref 2 [] 0 0)) 4 (.pref 4 [] 0 0)) 7 (.val (.int .i64 (IntKind.i64.wrap (a0.First + ((a0.Events.length : Nat) : Int)))))) 25 (.val (.bool c4))), (upd (upd RZ 2 (.sl true none 4 (some 1) [Topic.row a0])) 4 (.sl true none 4 (some 1) [[.val (.string (⟨#[]⟩)), .val (.int .i64 0), .val (.slice none 0 0), .val (.slice none 0 0)]]))⟩)
  · intro hJ3
    refine Wk_regionZ fun Z hZ => ?_
    simp only [go_sem, seval]
    refine RX_guard_dec rfl (fun hc4 => ?_) (fun hc4 => ?_)
    · have hc4d := decide_eq_true hc4
      rw [if_pos hc4] at h
      simp only [go_sem, seval, hc4d]
      refine hZ _ (pp (hJ3 _ true ?_ h))
      refine weak_roots ?_ ?_ <;> repeat' first | exact xn | exact rn | refine xc ?_ ?_ | refine rc ?_ ?_ ?_ | rfl
    have hc4d := decide_eq_false hc4
    rw [if_neg hc4] at h
    simp only [go_sem, seval, hc4d]
    refine hZ _ (pp (hJ3 _ (decide ((IntKind.i64.wrap (a0.First + ((a0.Events.length : Nat) : Int))) = 1099511627776)) ?_ h))
    refine weak_roots ?_ ?_ <;> repeat' first | exact xn | exact rn | refine xc ?_ ?_ | refine rc ?_ ?_ ?_ | rfl
  intro c4 h
  unfold ref29_Publish_J1 at h
  refine Wk_cond_bool rfl (fun hc5 => ?_) (fun hc5 => ?_)
  · rw [if_pos hc5] at h
    refine Wk_seq (Wk_regionZ fun Z hZ => ?_)
    simp only [go_sem, seval, hc5]
    refine hZ _ (pp (Wk_ret (pp ?_)))
    cases h
    simp only [go_sem, seval]
    exact ⟨_, rfl, RokI.h, PureI.h⟩
  rw [if_neg (ne_true_of_eq_false hc5)] at h
  refine Wk_skip (pp ?_)
  unfold ref29_Publish_J2 at h
  refine Wk_seq ?_
  obtain ⟨r5, hr6, h⟩ := Option.bind_eq_some_iff.1 h
  refine Wk_regionZ fun Z hZ => ?_
  simp only [go_sem, seval, hc5, hr6]
  refine hZ _ (pp (Wk_seq ?_))
  obtain ⟨ha7, h⟩ := apx_some h
  simp only [List.length_cons, List.length_nil, Nat.zero_add, Nat.reduceAdd] at ha7
  refine Wk_regionZ fun Z hZ => ?_
  simp only [go_sem, seval, ha7]
  refine hZ _ (pp (Wk_seq (Wk_regionZ fun Z hZ => ?_)))
  simp only [go_sem, seval]
  refine hZ _ (pp (Wk_ret (pp ?_)))
  cases h
  simp only [go_sem, seval]
  exact ⟨_, rfl, RokI.h, PureI.h⟩
def fs_ref29_Publish (N : Nat) : FnS := ⟨[], true, fn2 Topic.decA (decI .i64) fun q0 q1 => (ref29_Publish N q0 q1).map fun r => .tup [.agg (Topic.row r.1), .val (.int .i64 r.2.1), .val (.int .i64 r.2.2)], false⟩
attribute [go_sem] fs_ref29_Publish
theorem fs_ref29_Publish_ok (N : Nat) : FSOk Try.prog 23 (fs_ref29_Publish N) := ok2 (fun q0 q1 r h => by
  obtain ⟨r', hr, rfl⟩ := Option.map_eq_some_iff.1 h
  exact (w_ref29_Publish N q0 q1 r' hr).res (by (try simp only [go_sem]); exact RokI.h)) (Topic.decA_le) (decI_le)

def fso_ref29_Publish (N : Nat) : FnS := ⟨[], true, fn2 Topic.decA (decI .i64) fun q0 q1 => (ref29_Publish N q0 q1).map fun r => .tup [.agg [.val (.string r.1.Name), .val (.int .i64 r.1.First), .sl true none 1 none (r.1.Events.map (rowI .i64)), .sl true none 4 none (r.1.Subs.map Sub.row)], .val (.int .i64 r.2.1), .val (.int .i64 r.2.2)], false⟩
attribute [go_sem] fso_ref29_Publish
theorem fso_ref29_Publish_ok (N : Nat) : FSOk Try.prog 23 (fso_ref29_Publish N) := ok2 (fun q0 q1 r h => by
  obtain ⟨r', hr, rfl⟩ := Option.map_eq_some_iff.1 h
  exact w_ref29_Publish N q0 q1 r' hr) (Topic.decA_le) (decI_le)


noncomputable def G_ref29_subOf (N d f : Nat) : Option FnS := glist [(30, 44, fs_ref29_lessSub N)] d f
attribute [go_sem] G_ref29_subOf
theorem w_ref29_subOf (N : Nat) (a0 : Topic) (a1 : Ref) (a2 : ByteArray) (r : Int × Bool) (h : ref29_subOf N a0 a1 a2 = some r) : Con Try.prog 37 [] true [.agg (Topic.row a0), .agg [.val (.string a1.Type_), .val (.string a1.Key)], .val (.string a2)] (.tup [.val (.int .i64 r.1), .val (.bool r.2)]) := by
  refine fun_ok4 (G := (G_ref29_subOf N)) Try.func37 rfl (by decide) (by kernel_rfl) (gc 30 (fs_ref29_lessSub_ok N) gn) [] mix (Nat.le_of_ble_eq_true rfl) ?_
  simp only [Try.f37]
  unfold ref29_subOf at h
  refine Wk_seq (Wk_regionZ fun Z hZ => ?_)
  simp only [go_sem, seval]
  refine hZ _ (pp (Wk_seq (Wk_seq (Wk_regionZ fun Z hZ => ?_))))
  simp only [go_sem, seval]
  refine hZ _ (pp (Wk_block (Wk_real fun hreal2 => ?_)))
  have hl1 := hreal2.cell 3 3 (by simp only [go_sem, seval]; rfl) rfl
  rw [List.length_map] at hl1
  refine Wk_range (fun (v2 : Nat) (b : Unit) => ⟨tab 54 (updT (updT (updT (updT deadT 2 (.val (.string a2))) 3 (.pref 3 [] 0 0)) 4 (.pref 4 [] 0 0)) 8 (.val (.int .i64 ((v2 : Nat) : Int)))), (upd (upd RZ 3 (.sl true none 4 (some 1) [Topic.row a0])) 4 (.sl true none 2 (some 1) [[.val (.string a1.Type_), .val (.string a1.Key)]]))⟩) () h ?_ ?_
  · refine weak_roots ?_ ?_ <;> repeat' first | exact xn | exact rn | refine xc ?_ ?_ | refine rc ?_ ?_ ?_ | rfl
  rintro v2 ⟨⟩ hi3 h -
  rcases (drop_cases a0.Subs v2 hi3).symm with ⟨hi3', _, hd6⟩ | ⟨x5, hi3', hx4, hd6⟩
  · rw [hd6] at h
    simp only [ref29_subOf_L1] at h
    refine Wk_seq (Wk_seq (Wk_regionZ fun Z hZ => ?_))
    simp only [go_sem, seval, hi3']
    refine hZ _ (pp ?_)
    try simp only [Int.ofNat_lt, hi3', if_true, if_false] at h
    refine Wk_cond_f rfl (Wk_exit (pp (Wk_seq (Wk_regionZ fun Z hZ => ?_))))
    simp only [go_sem, seval]
    refine hZ _ (pp (Wk_ret (pp ?_)))
    cases h
    simp only [go_sem, seval]
    exact ⟨_, rfl, RokI.h, PureI.h⟩
  rw [hd6] at h
  simp only [ref29_subOf_L1] at h
  have hw5 := wrap_succ hi3' hl1
  refine Wk_seq (Wk_seq (Wk_regionZ fun Z hZ => ?_))
  simp only [go_sem, seval, hi3']
  refine hZ _ (pp ?_)
  try simp only [Int.ofNat_lt, hi3', if_true, if_false] at h
  refine Wk_cond_t rfl (Wk_skip (pp (Wk_seq (Wk_block (Wk_seq ?_)))))
  try rw [gx_nat hx4] at h
  try rw [gx_nat hx4] at h
  obtain ⟨r1, hr7, h⟩ := Option.bind_eq_some_iff.1 h
  refine Wk_regionD fun Z hZ => ?_
  simp only [go_sem, seval, hx4, hi3', hr7]
  repeat with_reducible refine and_bar (by kernel_rfl) ?_
  refine hZ _ (by kernel_rfl) (pp (sw (Wk_cond_nbool rfl) (fun hc8 => ?_) (fun hc8 => ?_)))
  · rw [if_pos hc8] at h
    refine Wk_skip (pp (Wk_regionZ fun Z hZ => ?_))
    simp only [go_sem, seval, hw5, hc8]
    refine hZ _ (pp ?_)
    first | refine ⟨(), ?_, h⟩ | refine ⟨hi3', (), ?_, h⟩
    refine weak_roots ?_ ?_ <;> repeat' first | exact xn | exact rn | refine xc ?_ ?_ | refine rc ?_ ?_ ?_ | rfl
  rw [if_neg (ne_true_of_eq_false hc8)] at h
  refine Wk_seq ?_
  try rw [gx_nat hx4] at h
  refine Wk_regionD fun Z hZ => ?_
  simp only [go_sem, seval, hx4, hi3', hc8]
  refine RX_guard_bool rfl (fun hc9 => ?_) (fun hc9 => ?_)
  · rw [if_pos hc9] at h
    try rw [gx_nat hx4] at h
    simp only [go_sem, seval, hx4, hi3', hc9]
    refine hZ _ (by kernel_rfl) (pp (Wk_ret (pp ?_)))
    cases h
    simp only [go_sem, seval]
    exact ⟨_, rfl, RokI.h, PureI.h⟩
  rw [if_neg (ne_true_of_eq_false hc9)] at h
  simp only [go_sem, seval, hc9]
  refine hZ _ (by kernel_rfl) (pp (Wk_ret (pp ?_)))
  cases h
  simp only [go_sem, seval]
  exact ⟨_, rfl, RokI.h, PureI.h⟩
def fs_ref29_subOf (N : Nat) : FnS := ⟨[], true, fn3 Topic.decA Ref.decA decS fun q0 q1 q2 => (ref29_subOf N q0 q1 q2).map fun r => .tup [.val (.int .i64 r.1), .val (.bool r.2)], false⟩
attribute [go_sem] fs_ref29_subOf
theorem fs_ref29_subOf_ok (N : Nat) : FSOk Try.prog 37 (fs_ref29_subOf N) := ok3 (fun q0 q1 q2 r h => by
  obtain ⟨r', hr, rfl⟩ := Option.map_eq_some_iff.1 h
  exact w_ref29_subOf N q0 q1 q2 r' hr) (Topic.decA_le) (Ref.decA_le) (decS_le)


noncomputable def G_ref29_Subscribe (N d f : Nat) : Option FnS := glist [(12, 34, fs_ref29_ValidTopic N), (16, 36, fs_ref14_ValidRef N), (21, 22, fs_ref16_ValidName N), (29, 37, fs_ref29_subOf N), (40, 35, fs_ref29_CopyTopic N)] d f
attribute [go_sem] G_ref29_Subscribe
theorem w_ref29_Subscribe (N : Nat) (a0 : Topic) (a1 : Ref) (a2 : ByteArray) (r : Topic × Int) (h : ref29_Subscribe N a0 a1 a2 = some r) : Con Try.prog 24 [] false [.agg (Topic.row a0), .agg [.val (.string a1.Type_), .val (.string a1.Key)], .val (.string a2)] (.tup [.agg [.val (.string r.1.Name), .val (.int .i64 r.1.First), .sl false none 1 none (r.1.Events.map (rowI .i64)), .sl true none 4 none (r.1.Subs.map Sub.row)], .val (.int .i64 r.2)]) := by
  refine fun_ok4 (G := (G_ref29_Subscribe N)) Try.func24 rfl (by decide) (by kernel_rfl) (gc 12 (fs_ref29_ValidTopic_ok N) (gc 16 (fs_ref14_ValidRef_ok N) (gc 21 (fs_ref16_ValidName_ok N) (gc 29 (fs_ref29_subOf_ok N) (gc 40 (fs_ref29_CopyTopic_ok N) gn))))) [(62, true)] mix (Nat.le_of_ble_eq_true rfl) ?_
  simp only [Try.f24]
  unfold ref29_Subscribe at h
  refine Wk_seq (Wk_regionZ fun Z hZ => ?_)
  simp only [go_sem, seval]
  refine hZ _ (pp (Wk_seq ?_))
  apply Wk_join1 (fun (c9 : Bool) => ⟨tab 67 (updT (updT (updT (updT (updT deadT 2 (.val (.string a2))) 3 (.pref 3 [] 0 0)) 4 (.pref 4 [] 0 0)) 6 (.pref 6 [] 0 0)) 23 (.val (.bool c9))), (upd (upd (upd RZ 3 (.sl true none 4 (some 1) [Topic.row a0])) 4 (.sl true none 2 (some 1) [[.val (.string a1.Type_), .val (.string a1.Key)]])) 6 (.sl true none 4 (some 1) [[.val (.string (⟨#[]⟩)), .val (.int .i64 0), .val (.slice none 0 0), .val (.slice none 0 0)]]))⟩)
  · intro hJ1
    obtain ⟨r10, hr2, h⟩ := Option.bind_eq_some_iff.1 h
    refine Wk_regionZ fun Z hZ => ?_
    simp only [go_sem, seval, hr2]
    refine RX_guard_nbool rfl (fun hc3 => ?_) (fun hc3 => ?_)
    · rw [if_neg (ne_true_of_eq_false hc3)] at h
      simp only [go_sem, seval, hc3]
      refine hZ _ (pp (hJ1 _ true ?_ h))
      refine weak_roots ?_ ?_ <;> repeat' first | exact xn | exact rn | refine xc ?_ ?_ | refine rc ?_ ?_ ?_ | rfl
    rw [if_pos hc3] at h
    obtain ⟨r11, hr4, h⟩ := Option.bind_eq_some_iff.1 h
    simp only [go_sem, seval, hc3, hr4]
    refine RX_guard_nbool rfl (fun hc5 => ?_) (fun hc5 => ?_)
    · rw [if_neg (ne_true_of_eq_false hc5)] at h
      simp only [go_sem, seval, hc5]
      refine hZ _ (pp (hJ1 _ true ?_ h))
      refine weak_roots ?_ ?_ <;> repeat' first | exact xn | exact rn | refine xc ?_ ?_ | refine rc ?_ ?_ ?_ | rfl
    rw [if_pos hc5] at h
    obtain ⟨r12, hr6, h⟩ := Option.bind_eq_some_iff.1 h
    simp only [go_sem, seval, hc5, hr6]
    refine hZ _ (pp (hJ1 _ (!r12) ?_ h))
    refine weak_roots ?_ ?_ <;> repeat' first | exact xn | exact rn | refine xc ?_ ?_ | refine rc ?_ ?_ ?_ | rfl
  intro c9 h
  unfold ref29_Subscribe_J1 at h
  refine Wk_cond_bool rfl (fun hc7 => ?_) (fun hc7 => ?_)
  · rw [if_pos hc7] at h
    refine Wk_seq (Wk_regionZ fun Z hZ => ?_)
    simp only [go_sem, seval, hc7]
    refine hZ _ (pp (Wk_ret (pp ?_)))
    cases h
    simp only [go_sem, seval]
    exact ⟨_, rfl, RokI.h⟩
  rw [if_neg (ne_true_of_eq_false hc7)] at h
  refine Wk_skip (pp ?_)
  unfold ref29_Subscribe_J2 at h
  refine Wk_seq ?_
  obtain ⟨r13, hr8, h⟩ := Option.bind_eq_some_iff.1 h
  refine Wk_regionZ fun Z hZ => ?_
  simp only [go_sem, seval, hc7, hr8]
  refine hZ _ (pp (Wk_seq (Wk_seq (Wk_regionZ fun Z hZ => ?_))))
  simp only [go_sem, seval]
  refine hZ _ (pp (Wk_cond_bool rfl (fun hc9 => ?_) (fun hc9 => ?_)))
  · rw [if_pos hc9] at h
    refine Wk_seq (Wk_regionZ fun Z hZ => ?_)
    simp only [go_sem, seval, hc9]
    refine hZ _ (pp (Wk_ret (pp ?_)))
    cases h
    simp only [go_sem, seval]
    exact ⟨_, rfl, RokI.h⟩
  rw [if_neg (ne_true_of_eq_false hc9)] at h
  refine Wk_skip (pp (Wk_seq (Wk_seq (Wk_regionZ fun Z hZ => ?_))))
  simp only [go_sem, seval, hc9]
  refine hZ _ (pp (Wk_cond_dec rfl (fun hc10 => ?_) (fun hc10 => ?_)))
  · have hc10d := decide_eq_true hc10
    rw [if_pos hc10] at h
    refine Wk_seq (Wk_regionZ fun Z hZ => ?_)
    simp only [go_sem, seval, hc10d]
    refine hZ _ (pp (Wk_ret (pp ?_)))
    cases h
    simp only [go_sem, seval]
    exact ⟨_, rfl, RokI.h⟩
  have hc10d := decide_eq_false hc10
  rw [if_neg hc10] at h
  refine Wk_skip (pp (Wk_seq ?_))
  obtain ⟨r14, hr11, h⟩ := Option.bind_eq_some_iff.1 h
  refine Wk_regionZ fun Z hZ => ?_
  simp only [go_sem, seval, hc10d, hr11]
  refine hZ _ (pp (Wk_seq ?_))
  obtain ⟨hs12, h⟩ := slx_some h
  try simp only [Int.toNat_natCast] at hs12 h
  first | obtain ⟨ha13, h⟩ := apn_some h | (obtain ⟨ha13, h⟩ := apx_some h; rw [List.nil_append] at h)
  simp only [Nat.reduceAdd] at ha13
  refine Wk_regionZ fun Z hZ => ?_
  simp only [go_sem, seval, hs12, Nat.zero_le, ha13]
  refine hZ _ (pp (Wk_seq ?_))
  obtain ⟨hs14, ht15, h⟩ := slt_some h
  try simp only [Int.toNat_natCast] at hs14 ht15 h
  obtain ⟨ha16, h⟩ := apx_some h
  simp only [List.length_cons, List.length_nil, Nat.zero_add, Nat.reduceAdd] at ha16
  obtain ⟨ha17, h⟩ := apx_some h
  simp only [List.length_append, List.length_cons, List.length_nil, Nat.zero_add, Nat.reduceAdd] at ha17
  refine Wk_regionH fun Y hY => ?_
  refine RX2_s rfl rfl fun Z hZ => ?_
  simp only [go_sem, seval]
  repeat with_reducible refine and_bar (by kernel_rfl) ?_
  refine hZ _ ?_
  refine RX2_s rfl rfl fun Z hZ => ?_
  simp only [go_sem, seval, Nat.le_refl]
  refine hZ _ ?_
  refine RX2_s rfl rfl fun Z hZ => ?_
  simp only [go_sem, seval]
  refine hZ _ ?_
  refine RX2_s rfl rfl fun Z hZ => ?_
  simp only [go_sem, seval]
  refine hZ _ ?_
  refine RX2_s rfl rfl fun Z hZ => ?_
  simp only [go_sem, seval, hs12, Nat.sub_zero, Nat.zero_le, Nat.le_refl]
  refine hZ _ ?_
  refine RX2_s rfl rfl fun Z hZ => ?_
  simp only [go_sem, seval, Nat.le_refl]
  refine hZ _ ?_
  refine RX2_s rfl rfl fun Z hZ => ?_
  simp only [go_sem, seval]
  refine hZ _ ?_
  refine RX2_s rfl rfl fun Z hZ => ?_
  simp only [go_sem, seval]
  refine hZ _ ?_
  refine RX2_s rfl rfl fun Z hZ => ?_
  simp only [go_sem, seval]
  refine hZ _ ?_
  refine RX2_s rfl rfl fun Z hZ => ?_
  simp only [go_sem, seval]
  refine hZ _ ?_
  refine RX2_s rfl rfl fun Z hZ => ?_
  simp only [go_sem, seval]
  refine hZ _ ?_
  refine RX2_s rfl rfl fun Z hZ => ?_
  simp only [go_sem, seval]
  refine hZ _ ?_
  refine RX2_s rfl rfl fun Z hZ => ?_
  simp only [go_sem, seval]
  refine hZ _ ?_
  refine RX2_s rfl rfl fun Z hZ => ?_
  simp only [go_sem, seval, Nat.le_refl]
  refine hZ _ ?_
  refine RX2_s rfl rfl fun Z hZ => ?_
  simp only [go_sem, seval, Nat.le_refl]
  refine hZ _ ?_
  refine RX2_a fun Z hZ => ?_
  simp only [go_sem, seval, slt_lt ht15, ha16]
  refine hZ _ ?_
  refine RX2_s rfl rfl fun Z hZ => ?_
  simp only [go_sem, seval]
  refine hZ _ ?_
  refine RX2_a fun Z hZ => ?_
  simp only [go_sem, seval, ha17]
  refine hZ _ ?_
  refine RX2_s rfl rfl fun Z hZ => ?_
  simp only [go_sem, seval]
  refine hZ _ ?_
  refine RX2_w fun Z hZ => ?_
  simp only [go_sem, seval, Nat.lt_succ_self]
  refine hZ _ ?_
  refine RX2_end (by kernel_rfl) (hY _ (pp (Wk_seq (Wk_regionZ fun Z hZ => ?_))))
  simp only [go_sem, seval, Nat.le_refl, Nat.lt_succ_self]
  refine hZ _ (pp (Wk_ret (pp ?_)))
  cases h
  simp only [go_sem, seval, Nat.le_refl]
  exact ⟨_, rfl, RokI.h⟩
def fs_ref29_Subscribe (N : Nat) : FnS := ⟨[], false, fn3 Topic.decA Ref.decA decS fun q0 q1 q2 => (ref29_Subscribe N q0 q1 q2).map fun r => .tup [.agg (Topic.row r.1), .val (.int .i64 r.2)], false⟩
attribute [go_sem] fs_ref29_Subscribe
theorem fs_ref29_Subscribe_ok (N : Nat) : FSOk Try.prog 24 (fs_ref29_Subscribe N) := ok3 (fun q0 q1 q2 r h => by
  obtain ⟨r', hr, rfl⟩ := Option.map_eq_some_iff.1 h
  exact (w_ref29_Subscribe N q0 q1 q2 r' hr).res (by (try simp only [go_sem]); exact RokI.h)) (Topic.decA_le) (Ref.decA_le) (decS_le)

def fso_ref29_Subscribe (N : Nat) : FnS := ⟨[], false, fn3 Topic.decA Ref.decA decS fun q0 q1 q2 => (ref29_Subscribe N q0 q1 q2).map fun r => .tup [.agg [.val (.string r.1.Name), .val (.int .i64 r.1.First), .sl false none 1 none (r.1.Events.map (rowI .i64)), .sl true none 4 none (r.1.Subs.map Sub.row)], .val (.int .i64 r.2)], false⟩
attribute [go_sem] fso_ref29_Subscribe
theorem fso_ref29_Subscribe_ok (N : Nat) : FSOk Try.prog 24 (fso_ref29_Subscribe N) := ok3 (fun q0 q1 q2 r h => by
  obtain ⟨r', hr, rfl⟩ := Option.map_eq_some_iff.1 h
  exact w_ref29_Subscribe N q0 q1 q2 r' hr) (Topic.decA_le) (Ref.decA_le) (decS_le)


noncomputable def E_slices_Delete_Sub : Env := { T := tiOf Try.prog, G := fun d f => none }
theorem E_slices_Delete_Sub_T : E_slices_Delete_Sub.T = tiOf Try.prog := rfl
theorem E_slices_Delete_Sub_F (d : Nat) : E_slices_Delete_Sub.F d = none := rfl
theorem E_slices_Delete_Sub_ok : GOk Try.prog { T := tiOf Try.prog, G := E_slices_Delete_Sub.G } := by
  refine ⟨?_, fun _ _ _ h => by cases h⟩
  intro d f fs hfs
  cases hfs
theorem fo_slices_Delete_Sub : FunOk Try.prog 32 Try.f32 Try.f32.body.get! := ⟨Try.func32, rfl, by decide, by kernel_rfl⟩
set_option maxHeartbeats 4000000 in
theorem w1_slices_Delete_Sub {α : Type} (row : α → List C) (ok : RowOk row) (l : List α) (i j : Nat) (r : List α) (hr : r = l.take i ++ l.drop j) (hij : i ≤ j) (hj : j ≤ l.length) :
    Con Try.prog 32 [true, false, false] false [.sl true none 4 none (l.map row), .val (.int .i64 i), .val (.int .i64 j)] (.sl true none 4 none (r.map row)) := by
  refine fun_own (E := E_slices_Delete_Sub) (tiOf_ok Try.prog _) E_slices_Delete_Sub_ok mix fo_slices_Delete_Sub (Nat.le_of_ble_eq_true rfl) ?_
  intro _
  rw [entry_tab (by simp)]
  rw [show entryF [true, false, false] [C.sl true none 4 none (l.map row), C.val (.int .i64 i), C.val (.int .i64 j)] = (updT (updT (updT deadT 0 (.pal 0 [] 0 l.length none)) 1 (.val (.int .i64 i))) 2 (.val (.int .i64 j))) from by funext t; match t with | 0 => simp [entryF, entryTmp, viewD, updT] | 1 => rfl | 2 => rfl | t + 3 => rfl]
  rw [show R0 [true, false, false] [C.sl true none 4 none (l.map row), C.val (.int .i64 i), C.val (.int .i64 j)] = upd RZ 0 (C.sl true none 4 none (l.map row)) from by funext t; match t with | 0 => rfl | 1 => rfl | 2 => rfl | t + 3 => rfl]
  apply W_start
  simp only [Try.f32, Option.get!]
  have hi1 : (i : Int) ≤ (j : Int) := by omega
  have hj1 : (j : Int) ≤ (l.length : Int) := by omega
  have hj0 : i ≤ l.length := by omega
  simp only [go_sem, seval, E_slices_Delete_Sub_T, E_slices_Delete_Sub_F, hi1, hj1, hij, hj, hj0, Nat.le_refl, RowOk.frzRows ok, RowOk.all ok, RowOk.allPlain ok, RowOk.allD ok, rewritten, RX_clear, altX, roomS, roomC, reslice2X, clearX, mem_none_le, mem_some_le, Option.map_some, Nat.zero_le, Nat.sub_zero, deepV, List.isEmpty_nil, decide_not, List.length_replicate]
  refine W_cond_dec rfl (fun hc => ?_) (fun hc => ?_)
  · have e : i = j := by omega
    subst e
    simp only [go_sem, seval, E_slices_Delete_Sub_T, E_slices_Delete_Sub_F, hi1, hj1, hij, hj, hj0, Nat.le_refl, RowOk.frzRows ok, RowOk.all ok, RowOk.allPlain ok, RowOk.allD ok, rewritten, RX_clear, altX, roomS, roomC, reslice2X, clearX, mem_none_le, mem_some_le, Option.map_some, Nat.zero_le, Nat.sub_zero, deepV, List.isEmpty_nil, decide_not, List.length_replicate, FinO_ret, FinO_normal]
    refine fin_own ok ?_
    rw [hr]
    simp [List.take_of_length_le]
  · have hc1 : decide ((i : Int) = (j : Int)) = false := decide_eq_false hc
    have hlt : i < j := by omega
    have hlt2 : i < l.length := by omega
    have hm3 : (l.drop j).take (l.length - j) = l.drop j := List.take_of_length_le (by simp)
    have hd : (l.drop j).length = l.length - j := by simp
    have hle : i + (l.length - j) ≤ l.length := by omega
    have hnle : ¬ l.length ≤ i + (l.length - j) := by omega
    obtain ⟨A, hA⟩ : ∃ A, setRows (List.map row l) i (List.map row (List.drop j l)) = A := ⟨_, rfl⟩
    have hAp : plainL' A := by rw [← hA]; exact plainL'_set (plainL'_map ok _) (plainL'_map ok _)
    have hAl : A.length = l.length := by rw [← hA]; simp [setRows]; omega
    obtain ⟨B, hB⟩ : ∃ B, setRows A (i + (l.length - j)) (List.replicate (l.length - (i + (l.length - j))) [C.val (Value.string ⟨#[]⟩), C.val (Value.string ⟨#[]⟩), C.val (Value.string ⟨#[]⟩), C.val (Value.int .i64 0)]) = B := ⟨_, rfl⟩
    have hBp : plainL' B := by rw [← hB]; exact plainL'_set hAp (plainL'_vals _ [Value.string ⟨#[]⟩, Value.string ⟨#[]⟩, Value.string ⟨#[]⟩, Value.int .i64 0] (by simp [Value.oneCell']))
    have hBe : B.take (i + (l.length - j)) = r.map row := by
      have := del_rows (L := l.map row) (List.replicate (l.length - (i + (l.length - j))) [C.val (Value.string ⟨#[]⟩), C.val (Value.string ⟨#[]⟩), C.val (Value.string ⟨#[]⟩), C.val (Value.int .i64 0)]) hij (by simpa using hj)
      rw [List.length_map, ← List.map_drop, hA, hB] at this
      rw [this, hr]; simp
    simp only [go_sem, seval, E_slices_Delete_Sub_T, E_slices_Delete_Sub_F, hi1, hj1, hij, hj, hj0, Nat.le_refl, RowOk.frzRows ok, RowOk.all ok, RowOk.allPlain ok, RowOk.allD ok, rewritten, RX_clear, altX, roomS, roomC, reslice2X, clearX, mem_none_le, mem_some_le, Option.map_some, Nat.zero_le, Nat.sub_zero, deepV, List.isEmpty_nil, decide_not, List.length_replicate, hc1, hlt, hlt2, hm3, hd, hle, hnle, hA, hAl, hAp.1, hAp.2]
    repeat' ((with_reducible refine and_bar ?_ ?_); kernel_rfl)
    simp only [go_sem, seval, E_slices_Delete_Sub_T, E_slices_Delete_Sub_F, hi1, hj1, hij, hj, hj0, Nat.le_refl, RowOk.frzRows ok, RowOk.all ok, RowOk.allPlain ok, RowOk.allD ok, rewritten, RX_clear, altX, roomS, roomC, reslice2X, clearX, mem_none_le, mem_some_le, Option.map_some, Nat.zero_le, Nat.sub_zero, deepV, List.isEmpty_nil, decide_not, List.length_replicate, hc1, hlt, hlt2, hm3, hd, hle, hnle, hA, hAl, hAp.1, hAp.2, hB, hBp.1, hBp.2, FinO_ret, FinO_normal]
    repeat' ((with_reducible refine and_bar ?_ ?_); kernel_rfl)
    try simp only [go_sem, seval, E_slices_Delete_Sub_T, E_slices_Delete_Sub_F, hi1, hj1, hij, hj, hj0, Nat.le_refl, RowOk.frzRows ok, RowOk.all ok, RowOk.allPlain ok, RowOk.allD ok, rewritten, RX_clear, altX, roomS, roomC, reslice2X, clearX, mem_none_le, mem_some_le, Option.map_some, Nat.zero_le, Nat.sub_zero, deepV, List.isEmpty_nil, decide_not, List.length_replicate, FinO_ret, FinO_normal, hBp.1, hBp.2]
    refine fin_own ok ?_
    rw [← hBe]
theorem w_slices_Delete_Sub (N : Nat) (a0 : List Sub) (a1 : Int) (a2 : Int) (r : List Sub) (h : slices_Delete_Sub N a0 a1 a2 = some r) :
    Con Try.prog 32 [true, false, false] false [.sl true none 4 none (a0.map Sub.row), .val (.int .i64 a1), .val (.int .i64 a2)] (.sl true none 4 none (r.map Sub.row)) := by
  unfold slices_Delete_Sub at h
  obtain ⟨n, m, rfl, rfl, h1, h2, h3⟩ := delM_some h
  exact w1_slices_Delete_Sub Sub.row Sub.row_ok a0 n m r (Option.some.inj h3).symm h1 h2
def fso_slices_Delete_Sub (N : Nat) : FnS := { own := [true, false, false], pure := false, fn := fun cs => match cs with
  | [c0, c1, c2] => (decO 4 Sub.dec c0).bind fun q0 => (decI .i64 c1).bind fun q1 => (decI .i64 c2).bind fun q2 => (slices_Delete_Sub N q0 q1 q2).map fun r => .sl true none 4 none (r.map Sub.row)
  | _ => none }
theorem fso_slices_Delete_Sub_own (N : Nat) : (fso_slices_Delete_Sub N).own = [true, false, false] := rfl
theorem fso_slices_Delete_Sub_pure (N : Nat) : (fso_slices_Delete_Sub N).pure = false := rfl
theorem fso_slices_Delete_Sub_peek (N : Nat) : (fso_slices_Delete_Sub N).peek = false := rfl
attribute [go_sem] fso_slices_Delete_Sub fso_slices_Delete_Sub_own fso_slices_Delete_Sub_pure fso_slices_Delete_Sub_peek
theorem fso_slices_Delete_Sub_ok (N : Nat) : FSOk Try.prog 32 (fso_slices_Delete_Sub N) := by
  refine ⟨fun cs r h => ?_, fun h => by cases h⟩
  simp only [fso_slices_Delete_Sub] at h
  split at h
  · simp only [Option.bind_eq_some_iff, Option.map_eq_some_iff] at h
    obtain ⟨q0, h0, q1, h1, q2, h2, r', hr, rfl⟩ := h
    exact (w_slices_Delete_Sub N q0 q1 q2 r' hr).argsO rfl (argsO_own (decO_ok Sub.row_ok Sub.dec_le h0) (argsO_le (decI_le h1) (argsO_le (decI_le h2) argsO_nil)))
  · cases h


noncomputable def G_streams_Unsubscribe (N d f : Nat) : Option FnS := glist [(11, 19, fs_streams_Valid N), (18, 30, fs_streams_find N), (25, 28, fso_streams_clone N), (31, 32, fso_slices_Delete_Sub N)] d f
attribute [go_sem] G_streams_Unsubscribe
theorem w_streams_Unsubscribe (N : Nat) (a0 : Topic) (a1 : Ref) (a2 : ByteArray) (r : Topic × Int) (h : streams_Unsubscribe N a0 a1 a2 = some r) : Con Try.prog 13 [] true [.agg (Topic.row a0), .agg [.val (.string a1.Type_), .val (.string a1.Key)], .val (.string a2)] (.tup [.agg [.val (.string r.1.Name), .val (.int .i64 r.1.First), .sl true none 1 none (r.1.Events.map (rowI .i64)), .sl true none 4 none (r.1.Subs.map Sub.row)], .val (.int .i64 r.2)]) := by
  refine fun_ok4 (G := (G_streams_Unsubscribe N)) Try.func13 rfl (by decide) (by kernel_rfl) (gc 11 (fs_streams_Valid_ok N) (gc 18 (fs_streams_find_ok N) (gc 25 (fso_streams_clone_ok N) (gc 31 (fso_slices_Delete_Sub_ok N) gn)))) [] mix (Nat.le_of_ble_eq_true rfl) ?_
  simp only [Try.f13]
  unfold streams_Unsubscribe at h
  refine Wk_seq (Wk_regionZ fun Z hZ => ?_)
  simp only [go_sem, seval]
  refine hZ _ (pp (Wk_seq (Wk_seq ?_)))
  obtain ⟨r1, hr1, h⟩ := Option.bind_eq_some_iff.1 h
  refine Wk_regionZ fun Z hZ => ?_
  simp only [go_sem, seval, hr1]
  refine hZ _ (pp (Wk_cond_nbool rfl (fun hc2 => ?_) (fun hc2 => ?_)))
  · rw [if_neg (ne_true_of_eq_false hc2)] at h
    refine Wk_seq (Wk_regionZ fun Z hZ => ?_)
    simp only [go_sem, seval, hc2]
    refine hZ _ (pp (Wk_ret (pp ?_)))
    cases h
    simp only [go_sem, seval]
    exact ⟨_, rfl, RokI.h, PureI.h⟩
  rw [if_pos hc2] at h
  refine Wk_skip (pp (Wk_seq ?_))
  obtain ⟨r2, hr3, h⟩ := Option.bind_eq_some_iff.1 h
  refine Wk_regionZ fun Z hZ => ?_
  simp only [go_sem, seval, hc2, hr3]
  refine hZ _ (pp (Wk_seq (Wk_seq (Wk_regionZ fun Z hZ => ?_))))
  simp only [go_sem, seval]
  refine hZ _ (pp (Wk_cond_nbool rfl (fun hc4 => ?_) (fun hc4 => ?_)))
  · rw [if_neg (ne_true_of_eq_false hc4)] at h
    refine Wk_seq (Wk_regionZ fun Z hZ => ?_)
    simp only [go_sem, seval, hc4]
    refine hZ _ (pp (Wk_ret (pp ?_)))
    cases h
    simp only [go_sem, seval]
    exact ⟨_, rfl, RokI.h, PureI.h⟩
  rw [if_pos hc4] at h
  refine Wk_skip (pp (Wk_seq ?_))
  obtain ⟨r3, hr5, h⟩ := Option.bind_eq_some_iff.1 h
  refine Wk_regionZ fun Z hZ => ?_
  simp only [go_sem, seval, hc4, hr5]
  refine hZ _ (pp (Wk_seq ?_))
  obtain ⟨r4, hr6, h⟩ := Option.bind_eq_some_iff.1 h
  refine Wk_regionZ fun Z hZ => ?_
  simp only [go_sem, seval, hr6]
  refine hZ _ (pp (Wk_seq (Wk_regionZ fun Z hZ => ?_)))
  simp only [go_sem, seval]
  refine hZ _ (pp (Wk_ret (pp ?_)))
  cases h
  simp only [go_sem, seval]
  exact ⟨_, rfl, RokI.h, PureI.h⟩
def fs_streams_Unsubscribe (N : Nat) : FnS := ⟨[], true, fn3 Topic.decA Ref.decA decS fun q0 q1 q2 => (streams_Unsubscribe N q0 q1 q2).map fun r => .tup [.agg (Topic.row r.1), .val (.int .i64 r.2)], false⟩
attribute [go_sem] fs_streams_Unsubscribe
theorem fs_streams_Unsubscribe_ok (N : Nat) : FSOk Try.prog 13 (fs_streams_Unsubscribe N) := ok3 (fun q0 q1 q2 r h => by
  obtain ⟨r', hr, rfl⟩ := Option.map_eq_some_iff.1 h
  exact (w_streams_Unsubscribe N q0 q1 q2 r' hr).res (by (try simp only [go_sem]); exact RokI.h)) (Topic.decA_le) (Ref.decA_le) (decS_le)

def fso_streams_Unsubscribe (N : Nat) : FnS := ⟨[], true, fn3 Topic.decA Ref.decA decS fun q0 q1 q2 => (streams_Unsubscribe N q0 q1 q2).map fun r => .tup [.agg [.val (.string r.1.Name), .val (.int .i64 r.1.First), .sl true none 1 none (r.1.Events.map (rowI .i64)), .sl true none 4 none (r.1.Subs.map Sub.row)], .val (.int .i64 r.2)], false⟩
attribute [go_sem] fso_streams_Unsubscribe
theorem fso_streams_Unsubscribe_ok (N : Nat) : FSOk Try.prog 13 (fso_streams_Unsubscribe N) := ok3 (fun q0 q1 q2 r h => by
  obtain ⟨r', hr, rfl⟩ := Option.map_eq_some_iff.1 h
  exact w_streams_Unsubscribe N q0 q1 q2 r' hr) (Topic.decA_le) (Ref.decA_le) (decS_le)


noncomputable def G_ref29_Unsubscribe (N d f : Nat) : Option FnS := glist [(11, 34, fs_ref29_ValidTopic N), (18, 37, fs_ref29_subOf N), (25, 35, fs_ref29_CopyTopic N)] d f
attribute [go_sem] G_ref29_Unsubscribe
theorem w_ref29_Unsubscribe (N : Nat) (a0 : Topic) (a1 : Ref) (a2 : ByteArray) (r : Topic × Int) (h : ref29_Unsubscribe N a0 a1 a2 = some r) : Con Try.prog 25 [] false [.agg (Topic.row a0), .agg [.val (.string a1.Type_), .val (.string a1.Key)], .val (.string a2)] (.tup [.agg (Topic.row r.1), .val (.int .i64 r.2)]) := by
  refine fun_ok4 (G := (G_ref29_Unsubscribe N)) Try.func25 rfl (by decide) (by kernel_rfl) (gc 11 (fs_ref29_ValidTopic_ok N) (gc 18 (fs_ref29_subOf_ok N) (gc 25 (fs_ref29_CopyTopic_ok N) gn))) [(36, false)] mix (Nat.le_of_ble_eq_true rfl) ?_
  simp only [Try.f25]
  unfold ref29_Unsubscribe at h
  refine Wk_seq (Wk_regionZ fun Z hZ => ?_)
  simp only [go_sem, seval]
  refine hZ _ (pp (Wk_seq (Wk_seq ?_)))
  obtain ⟨r1, hr1, h⟩ := Option.bind_eq_some_iff.1 h
  refine Wk_regionZ fun Z hZ => ?_
  simp only [go_sem, seval, hr1]
  refine hZ _ (pp (Wk_cond_nbool rfl (fun hc2 => ?_) (fun hc2 => ?_)))
  · rw [if_neg (ne_true_of_eq_false hc2)] at h
    refine Wk_seq (Wk_regionZ fun Z hZ => ?_)
    simp only [go_sem, seval, hc2]
    refine hZ _ (pp (Wk_ret (pp ?_)))
    cases h
    simp only [go_sem, seval]
    exact ⟨_, rfl, RokI.h⟩
  rw [if_pos hc2] at h
  refine Wk_skip (pp (Wk_seq ?_))
  obtain ⟨r2, hr3, h⟩ := Option.bind_eq_some_iff.1 h
  refine Wk_regionZ fun Z hZ => ?_
  simp only [go_sem, seval, hc2, hr3]
  refine hZ _ (pp (Wk_seq (Wk_seq (Wk_regionZ fun Z hZ => ?_))))
  simp only [go_sem, seval]
  refine hZ _ (pp (Wk_cond_nbool rfl (fun hc4 => ?_) (fun hc4 => ?_)))
  · rw [if_neg (ne_true_of_eq_false hc4)] at h
    refine Wk_seq (Wk_regionZ fun Z hZ => ?_)
    simp only [go_sem, seval, hc4]
    refine hZ _ (pp (Wk_ret (pp ?_)))
    cases h
    simp only [go_sem, seval]
    exact ⟨_, rfl, RokI.h⟩
  rw [if_pos hc4] at h
  refine Wk_skip (pp (Wk_seq ?_))
  obtain ⟨r3, hr5, h⟩ := Option.bind_eq_some_iff.1 h
  refine Wk_regionZ fun Z hZ => ?_
  simp only [go_sem, seval, hc4, hr5]
  refine hZ _ (pp (Wk_seq ?_))
  obtain ⟨hs6, ht7, h⟩ := slt_some h
  try simp only [Int.toNat_natCast] at hs6 ht7 h
  obtain ⟨hs8, h⟩ := slx_some h
  try simp only [Int.toNat_natCast] at hs8 h
  obtain ⟨ha9, h⟩ := apx_some h
  simp only [Nat.reduceAdd] at ha9
  refine Wk_regionD fun Z hZ => ?_
  simp only [go_sem, seval, hs6, ht7, Nat.sub_zero, Nat.zero_le, Nat.le_refl, hs8, ha9, Nat.lt_succ_self]
  repeat with_reducible refine and_bar (by kernel_rfl) ?_
  refine hZ _ (by kernel_rfl) (pp (Wk_seq (Wk_regionZ fun Z hZ => ?_)))
  simp only [go_sem, seval, Nat.le_refl, Nat.lt_succ_self]
  refine hZ _ (pp (Wk_ret (pp ?_)))
  cases h
  simp only [go_sem, seval, Nat.le_refl]
  exact ⟨_, rfl, RokI.h⟩
def fs_ref29_Unsubscribe (N : Nat) : FnS := ⟨[], false, fn3 Topic.decA Ref.decA decS fun q0 q1 q2 => (ref29_Unsubscribe N q0 q1 q2).map fun r => .tup [.agg (Topic.row r.1), .val (.int .i64 r.2)], false⟩
attribute [go_sem] fs_ref29_Unsubscribe
theorem fs_ref29_Unsubscribe_ok (N : Nat) : FSOk Try.prog 25 (fs_ref29_Unsubscribe N) := ok3 (fun q0 q1 q2 r h => by
  obtain ⟨r', hr, rfl⟩ := Option.map_eq_some_iff.1 h
  exact w_ref29_Unsubscribe N q0 q1 q2 r' hr) (Topic.decA_le) (Ref.decA_le) (decS_le)


noncomputable def G_ref29_Ack (N d f : Nat) : Option FnS := glist [(14, 34, fs_ref29_ValidTopic N), (21, 37, fs_ref29_subOf N), (52, 35, fso_ref29_CopyTopic N)] d f
attribute [go_sem] G_ref29_Ack
theorem w_ref29_Ack (N : Nat) (a0 : Topic) (a1 : Ref) (a2 : ByteArray) (a3 : Int) (r : Topic × Int) (h : ref29_Ack N a0 a1 a2 a3 = some r) : Con Try.prog 26 [] true [.agg (Topic.row a0), .agg [.val (.string a1.Type_), .val (.string a1.Key)], .val (.string a2), .val (.int .i64 a3)] (.tup [.agg [.val (.string r.1.Name), .val (.int .i64 r.1.First), .sl true none 1 none (r.1.Events.map (rowI .i64)), .sl true none 4 none (r.1.Subs.map Sub.row)], .val (.int .i64 r.2)]) := by
  refine fun_ok4 (G := (G_ref29_Ack N)) Try.func26 rfl (by decide) (by kernel_rfl) (gc 14 (fs_ref29_ValidTopic_ok N) (gc 21 (fs_ref29_subOf_ok N) (gc 52 (fso_ref29_CopyTopic_ok N) gn))) [] mix (Nat.le_of_ble_eq_true rfl) ?_
  simp only [Try.f26]
  unfold ref29_Ack at h
  refine Wk_seq (Wk_regionZ fun Z hZ => ?_)
  simp only [go_sem, seval]
  refine hZ _ (pp (Wk_seq (Wk_seq ?_)))
  obtain ⟨r1, hr1, h⟩ := Option.bind_eq_some_iff.1 h
  refine Wk_regionZ fun Z hZ => ?_
  simp only [go_sem, seval, hr1]
  refine hZ _ (pp (Wk_cond_nbool rfl (fun hc2 => ?_) (fun hc2 => ?_)))
  · rw [if_neg (ne_true_of_eq_false hc2)] at h
    refine Wk_seq (Wk_regionZ fun Z hZ => ?_)
    simp only [go_sem, seval, hc2]
    refine hZ _ (pp (Wk_ret (pp ?_)))
    cases h
    simp only [go_sem, seval]
    exact ⟨_, rfl, RokI.h, PureI.h⟩
  rw [if_pos hc2] at h
  refine Wk_skip (pp (Wk_seq ?_))
  obtain ⟨r2, hr3, h⟩ := Option.bind_eq_some_iff.1 h
  refine Wk_regionZ fun Z hZ => ?_
  simp only [go_sem, seval, hc2, hr3]
  refine hZ _ (pp (Wk_seq (Wk_seq (Wk_regionZ fun Z hZ => ?_))))
  simp only [go_sem, seval]
  refine hZ _ (pp (Wk_cond_nbool rfl (fun hc4 => ?_) (fun hc4 => ?_)))
  · rw [if_neg (ne_true_of_eq_false hc4)] at h
    refine Wk_seq (Wk_regionZ fun Z hZ => ?_)
    simp only [go_sem, seval, hc4]
    refine hZ _ (pp (Wk_ret (pp ?_)))
    cases h
    simp only [go_sem, seval]
    exact ⟨_, rfl, RokI.h, PureI.h⟩
  rw [if_pos hc4] at h
  refine Wk_skip (pp (Wk_seq ?_))
  obtain ⟨x3, hb5, hx6, h⟩ := gx_some h
  refine Wk_regionZ fun Z hZ => ?_
  simp only [go_sem, seval, hc4, hb5, hx6]
  refine hZ _ (pp (Wk_seq (Wk_seq (Wk_regionZ fun Z hZ => ?_))))
  simp only [go_sem, seval]
  refine hZ _ (pp (Wk_cond_dec rfl (fun hc7 => ?_) (fun hc7 => ?_)))
  · have hc7d := decide_eq_true hc7
    rw [if_pos hc7] at h
    refine Wk_seq (Wk_regionZ fun Z hZ => ?_)
    simp only [go_sem, seval, hc7d]
    refine hZ _ (pp (Wk_ret (pp ?_)))
    cases h
    simp only [go_sem, seval]
    exact ⟨_, rfl, RokI.h, PureI.h⟩
  have hc7d := decide_eq_false hc7
  rw [if_neg hc7] at h
  refine Wk_skip (pp (Wk_seq ?_))
  apply Wk_join1 (fun (c6 : Bool) => ⟨tab 63 (updT (updT (updT (updT deadT 4 (.pref 4 [] 0 0)) 8 (.pref 8 [] 0 0)) 10 (.val (.int .i64 r2.1))) 49 (.val (.bool c6))), (upd (upd RZ 4 (.sl true none 4 (some 1) [Topic.row a0])) 8 (.sl true none 4 (some 1) [[.val (.string (⟨#[]⟩)), .val (.int .i64 0), .val (.slice none 0 0), .val (.slice none 0 0)]]))⟩)
  · intro hJ8
    refine Wk_regionZ fun Z hZ => ?_
    simp only [go_sem, seval, hc7d]
    refine RX_guard_dec rfl (fun hc9 => ?_) (fun hc9 => ?_)
    · have hc9d := decide_eq_true hc9
      rw [if_pos hc9] at h
      simp only [go_sem, seval, hc9d]
      refine hZ _ (pp (hJ8 _ true ?_ h))
      refine weak_roots ?_ ?_ <;> repeat' first | exact xn | exact rn | refine xc ?_ ?_ | refine rc ?_ ?_ ?_ | rfl
    have hc9d := decide_eq_false hc9
    rw [if_neg hc9] at h
    simp only [go_sem, seval, hc9d]
    refine hZ _ (pp (hJ8 _ (decide (a3 = (IntKind.i64.wrap (a0.First + ((a0.Events.length : Nat) : Int))))) ?_ h))
    refine weak_roots ?_ ?_ <;> repeat' first | exact xn | exact rn | refine xc ?_ ?_ | refine rc ?_ ?_ ?_ | rfl
  intro c6 h
  unfold ref29_Ack_J1 at h
  refine Wk_cond_bool rfl (fun hc10 => ?_) (fun hc10 => ?_)
  · rw [if_pos hc10] at h
    refine Wk_seq (Wk_regionZ fun Z hZ => ?_)
    simp only [go_sem, seval, hc10]
    refine hZ _ (pp (Wk_ret (pp ?_)))
    cases h
    simp only [go_sem, seval]
    exact ⟨_, rfl, RokI.h, PureI.h⟩
  rw [if_neg (ne_true_of_eq_false hc10)] at h
  refine Wk_skip (pp ?_)
  unfold ref29_Ack_J2 at h
  refine Wk_seq ?_
  obtain ⟨r7, hr11, h⟩ := Option.bind_eq_some_iff.1 h
  refine Wk_regionZ fun Z hZ => ?_
  simp only [go_sem, seval, hc10, hr11]
  refine hZ _ (pp (Wk_seq ?_))
  obtain ⟨x8, hb12, hx13, h⟩ := gx_some h
  have hx15 := set_get (y := (Sub.mk x8.Target x8.Method (IntKind.i64.wrap (x8.Cursor + 1)))) hx13
  refine Wk_regionZ fun Z hZ => ?_
  simp only [go_sem, seval, hb5, hb12, hx13, map_modify2 (row := Sub.row) (y := (Sub.mk x8.Target x8.Method (IntKind.i64.wrap (x8.Cursor + 1)))) (rx := [.val (.string x8.Target.Type_), .val (.string x8.Target.Key), .val (.string x8.Method), .val (.int .i64 x8.Cursor)]) (ry := [.val (.string x8.Target.Type_), .val (.string x8.Target.Key), .val (.string x8.Method), .val (.int .i64 (IntKind.i64.wrap (x8.Cursor + 1)))]) hx13 rfl rfl]
  refine hZ _ (pp (Wk_seq (Wk_regionZ fun Z hZ => ?_)))
  simp only [go_sem, seval]
  refine hZ _ (pp (Wk_ret (pp ?_)))
  cases h
  simp only [go_sem, seval]
  exact ⟨_, rfl, RokI.h, PureI.h⟩
def fs_ref29_Ack (N : Nat) : FnS := ⟨[], true, fn4 Topic.decA Ref.decA decS (decI .i64) fun q0 q1 q2 q3 => (ref29_Ack N q0 q1 q2 q3).map fun r => .tup [.agg (Topic.row r.1), .val (.int .i64 r.2)], false⟩
attribute [go_sem] fs_ref29_Ack
theorem fs_ref29_Ack_ok (N : Nat) : FSOk Try.prog 26 (fs_ref29_Ack N) := ok4 (fun q0 q1 q2 q3 r h => by
  obtain ⟨r', hr, rfl⟩ := Option.map_eq_some_iff.1 h
  exact (w_ref29_Ack N q0 q1 q2 q3 r' hr).res (by (try simp only [go_sem]); exact RokI.h)) (Topic.decA_le) (Ref.decA_le) (decS_le) (decI_le)

def fso_ref29_Ack (N : Nat) : FnS := ⟨[], true, fn4 Topic.decA Ref.decA decS (decI .i64) fun q0 q1 q2 q3 => (ref29_Ack N q0 q1 q2 q3).map fun r => .tup [.agg [.val (.string r.1.Name), .val (.int .i64 r.1.First), .sl true none 1 none (r.1.Events.map (rowI .i64)), .sl true none 4 none (r.1.Subs.map Sub.row)], .val (.int .i64 r.2)], false⟩
attribute [go_sem] fso_ref29_Ack
theorem fso_ref29_Ack_ok (N : Nat) : FSOk Try.prog 26 (fso_ref29_Ack N) := ok4 (fun q0 q1 q2 q3 r h => by
  obtain ⟨r', hr, rfl⟩ := Option.map_eq_some_iff.1 h
  exact w_ref29_Ack N q0 q1 q2 q3 r' hr) (Topic.decA_le) (Ref.decA_le) (decS_le) (decI_le)


noncomputable def G_ref29_Trim (N d f : Nat) : Option FnS := glist [(6, 34, fs_ref29_ValidTopic N), (31, 35, fs_ref29_CopyTopic N)] d f
attribute [go_sem] G_ref29_Trim
theorem w_ref29_Trim (N : Nat) (a0 : Topic) (r : Topic) (h : ref29_Trim N a0 = some r) : Con Try.prog 27 [] false [.agg (Topic.row a0)] (.agg (Topic.row r)) := by
  refine fun_ok4 (G := (G_ref29_Trim N)) Try.func27 rfl (by decide) (by kernel_rfl) (gc 6 (fs_ref29_ValidTopic_ok N) (gc 31 (fs_ref29_CopyTopic_ok N) gn)) [] mix (Nat.le_of_ble_eq_true rfl) ?_
  simp only [Try.f27]
  unfold ref29_Trim at h
  refine Wk_seq (Wk_regionZ fun Z hZ => ?_)
  simp only [go_sem, seval]
  refine hZ _ (pp (Wk_seq (Wk_seq ?_)))
  obtain ⟨r1, hr1, h⟩ := Option.bind_eq_some_iff.1 h
  refine Wk_regionZ fun Z hZ => ?_
  simp only [go_sem, seval, hr1]
  refine hZ _ (pp (Wk_cond_nbool rfl (fun hc2 => ?_) (fun hc2 => ?_)))
  · rw [if_neg (ne_true_of_eq_false hc2)] at h
    refine Wk_seq (Wk_regionZ fun Z hZ => ?_)
    simp only [go_sem, seval, hc2]
    refine hZ _ (pp (Wk_ret (pp ?_)))
    cases h
    simp only [go_sem, seval]
    exact ⟨_, rfl, RokI.h⟩
  rw [if_pos hc2] at h
  refine Wk_skip (pp (Wk_seq (Wk_regionZ fun Z hZ => ?_)))
  simp only [go_sem, seval, hc2]
  refine hZ _ (pp (Wk_seq (Wk_seq (Wk_regionZ fun Z hZ => ?_))))
  simp only [go_sem, seval]
  refine hZ _ (pp (Wk_block (Wk_real fun hreal4 => ?_)))
  have hl3 := hreal4.cell 1 3 (by simp only [go_sem, seval]; rfl) rfl
  rw [List.length_map] at hl3
  refine Wk_range (fun (v5 : Nat) (b : Int) => ⟨tab 43 (updT (updT (updT (updT deadT 1 (.pref 1 [] 0 0)) 2 (.pref 2 [] 0 0)) 3 (.val (.int .i64 b))) 4 (.val (.int .i64 ((v5 : Nat) : Int)))), (upd (upd RZ 1 (.sl true none 4 (some 1) [Topic.row a0])) 2 (.sl true none 4 (some 1) [[.val (.string (⟨#[]⟩)), .val (.int .i64 0), .val (.slice none 0 0), .val (.slice none 0 0)]]))⟩) (IntKind.i64.wrap (a0.First + ((a0.Events.length : Nat) : Int))) h ?_ ?_
  · refine weak_roots ?_ ?_ <;> repeat' first | exact xn | exact rn | refine xc ?_ ?_ | refine rc ?_ ?_ ?_ | rfl
  rintro v5 v4 hi5 h -
  rcases (drop_cases a0.Subs v5 hi5) with ⟨x8, hi5', hx6, hd8⟩ | ⟨hi5', _, hd8⟩
  · rw [hd8] at h
    simp only [ref29_Trim_L1] at h
    have hw7 := wrap_succ hi5' hl3
    refine Wk_seq (Wk_seq (Wk_regionZ fun Z hZ => ?_))
    simp only [go_sem, seval, hi5']
    refine hZ _ (pp ?_)
    try simp only [Int.ofNat_lt, hi5', if_true, if_false] at h
    refine Wk_cond_t rfl (Wk_skip (pp (Wk_seq (Wk_block ?_))))
    try rw [gx_nat hx6] at h
    refine Wk_regionZ fun Z hZ => ?_
    simp only [go_sem, seval, hx6, hi5']
    refine hZ _ (pp (Wk_regionZ fun Z hZ => ?_))
    simp only [go_sem, seval, hw7]
    refine hZ _ (pp ?_)
    first | refine ⟨(if x8.Cursor < v4 then x8.Cursor else v4), ?_, h⟩ | refine ⟨hi5', (if x8.Cursor < v4 then x8.Cursor else v4), ?_, h⟩
    refine weak_roots ?_ ?_ <;> repeat' first | exact xn | exact rn | refine xc ?_ ?_ | refine rc ?_ ?_ ?_ | rfl
  rw [hd8] at h
  simp only [ref29_Trim_L1] at h
  refine Wk_seq (Wk_seq (Wk_regionZ fun Z hZ => ?_))
  simp only [go_sem, seval, hi5']
  refine hZ _ (pp ?_)
  try simp only [Int.ofNat_lt, hi5', if_true, if_false] at h
  refine Wk_cond_f rfl (Wk_exit (pp ?_))
  unfold ref29_Trim_J1 at h
  refine Wk_seq ?_
  obtain ⟨r9, hr9, h⟩ := Option.bind_eq_some_iff.1 h
  refine Wk_regionZ fun Z hZ => ?_
  simp only [go_sem, seval, hr9]
  refine hZ _ (pp (Wk_seq ?_))
  obtain ⟨hs10, h⟩ := slx_some h
  try simp only [Int.toNat_natCast] at hs10 h
  refine Wk_regionZ fun Z hZ => ?_
  simp only [go_sem, seval, hs10, Nat.zero_le]
  refine hZ _ (pp (Wk_seq (Wk_regionZ fun Z hZ => ?_)))
  simp only [go_sem, seval]
  refine hZ _ (pp (Wk_seq (Wk_regionZ fun Z hZ => ?_)))
  simp only [go_sem, seval]
  refine hZ _ (pp (Wk_ret (pp ?_)))
  cases h
  simp only [go_sem, seval]
  exact ⟨_, rfl, RokI.h⟩
def fs_ref29_Trim (N : Nat) : FnS := ⟨[], false, fn1 Topic.decA fun q0 => (ref29_Trim N q0).map fun r => .agg (Topic.row r), false⟩
attribute [go_sem] fs_ref29_Trim
theorem fs_ref29_Trim_ok (N : Nat) : FSOk Try.prog 27 (fs_ref29_Trim N) := ok1 (fun q0 r h => by
  obtain ⟨r', hr, rfl⟩ := Option.map_eq_some_iff.1 h
  exact w_ref29_Trim N q0 r' hr) (Topic.decA_le)


noncomputable def G_law30_play (N d f : Nat) : Option FnS := glist [(18, 12, fs_law30_ref N), (48, 10, fs_streams_Publish N), (58, 23, fs_ref29_Publish N), (70, 11, fs_streams_Subscribe N), (79, 24, fs_ref29_Subscribe N), (94, 13, fs_streams_Unsubscribe N), (103, 25, fs_ref29_Unsubscribe N), (112, 15, fs_streams_Pending N), (135, 16, fs_streams_Ack N), (148, 26, fs_ref29_Ack N), (33, 14, fs_streams_Trim N), (37, 27, fs_ref29_Trim N), (157, 20, fs_ref29_SameTopic N), (171, 19, fs_streams_Valid N)] d f
attribute [go_sem] G_law30_play
theorem w_law30_play (N : Nat) (a0 : Topic) (a1 : Topic) (a2 : actorgridlaw30_Act) (r : Bool × Topic × Topic) (h : law30_play N a0 a1 a2 = some r) : ConL Try.prog 9 2 [.sl true none 4 (some 1) [Topic.row a0], .sl true none 4 (some 1) [Topic.row a1], .agg (actorgridlaw30_Act.row a2)] (.val (.bool r.1)) [.sl true none 4 (some 1) [Topic.row r.2.1], .sl true none 4 (some 1) [Topic.row r.2.2]] := by
  refine fun_lent5 (G := (G_law30_play N)) (L := noL) Try.func9 rfl (by decide) (by kernel_rfl) 2 (by kernel_rfl) (gc 18 (fs_law30_ref_ok N) (gc 48 (fs_streams_Publish_ok N) (gc 58 (fs_ref29_Publish_ok N) (gc 70 (fs_streams_Subscribe_ok N) (gc 79 (fs_ref29_Subscribe_ok N) (gc 94 (fs_streams_Unsubscribe_ok N) (gc 103 (fs_ref29_Unsubscribe_ok N) (gc 112 (fs_streams_Pending_ok N) (gc 135 (fs_streams_Ack_ok N) (gc 148 (fs_ref29_Ack_ok N) (gc 33 (fs_streams_Trim_ok N) (gc 37 (fs_ref29_Trim_ok N) (gc 157 (fs_ref29_SameTopic_ok N) (gc 171 (fs_streams_Valid_ok N) gn)))))))))))))) (fun _ _ _ h => by cases h) [] mix (Nat.le_of_ble_eq_true rfl) (Nat.le_of_ble_eq_true rfl) rfl rfl ?_
  simp only [Try.f9]
  unfold law30_play at h
  refine Wk_seq (Wk_regionZ fun Z hZ => ?_)
  simp (config := { maxSteps := 4000000 }) only [go_sem, seval]
  refine hZ _ (pp (Wk_seq ?_))
  obtain ⟨r1, hr1, h⟩ := Option.bind_eq_some_iff.1 h
  refine Wk_regionZ fun Z hZ => ?_
  simp (config := { maxSteps := 4000000 }) only [go_sem, seval, hr1]
  refine hZ _ (pp (Wk_seq (Wk_regionH fun Y hY => ?_)))
  refine RX2_s rfl rfl fun Z hZ => ?_
  simp (config := { maxSteps := 4000000 }) only [go_sem, seval]
  repeat with_reducible refine and_bar (by kernel_rfl) ?_
  refine hZ _ ?_
  refine RX2_s rfl rfl fun Z hZ => ?_
  simp (config := { maxSteps := 4000000 }) only [go_sem, seval]
  repeat with_reducible refine and_bar (by kernel_rfl) ?_
  refine hZ _ ?_
  refine RX2_s rfl rfl fun Z hZ => ?_
  simp (config := { maxSteps := 4000000 }) only [go_sem, seval]
  repeat with_reducible refine and_bar (by kernel_rfl) ?_
  refine hZ _ ?_
  refine RX2_s rfl rfl fun Z hZ => ?_
  simp (config := { maxSteps := 4000000 }) only [go_sem, seval]
  repeat with_reducible refine and_bar (by kernel_rfl) ?_
  refine hZ _ ?_
  refine RX2_s rfl rfl fun Z hZ => ?_
  simp (config := { maxSteps := 4000000 }) only [go_sem, seval]
  repeat with_reducible refine and_bar (by kernel_rfl) ?_
  refine hZ _ ?_
  refine RX2_s rfl rfl fun Z hZ => ?_
  simp (config := { maxSteps := 4000000 }) only [go_sem, seval]
  repeat with_reducible refine and_bar (by kernel_rfl) ?_
  refine hZ _ ?_
  refine RX2_s rfl rfl fun Z hZ => ?_
  simp (config := { maxSteps := 4000000 }) only [go_sem, seval]
  repeat with_reducible refine and_bar (by kernel_rfl) ?_
  refine hZ _ ?_
  refine RX2_s rfl rfl fun Z hZ => ?_
  simp (config := { maxSteps := 4000000 }) only [go_sem, seval]
  repeat with_reducible refine and_bar (by kernel_rfl) ?_
  refine hZ _ ?_
  refine RX2_w fun Z hZ => ?_
  simp (config := { maxSteps := 4000000 }) only [go_sem, seval]
  repeat with_reducible refine and_bar (by kernel_rfl) ?_
  refine hZ _ ?_
  refine RX2_w fun Z hZ => ?_
  simp (config := { maxSteps := 4000000 }) only [go_sem, seval]
  repeat with_reducible refine and_bar (by kernel_rfl) ?_
  refine hZ _ ?_
  refine RX2_end (by kernel_rfl) (hY _ (pp (Wk_seq (Wk_regionZ fun Z hZ => ?_))))
  simp (config := { maxSteps := 4000000 }) only [go_sem, seval]
  refine hZ _ (pp ?_)
  apply Wk_join10 (fun (s18 : ByteArray) (v19 : Int) (l20 : List Int) (l21 : List Sub) (s22 : ByteArray) (v23 : Int) (l24 : List Int) (l25 : List Sub) (v26 : Int) (v27 : Int) => ⟨tab 172 (updT (updT (updT (updT (updT (updT deadT 0 (.pref 0 [] 0 0)) 1 (.pref 1 [] 0 0)) 9 (.pref 9 [] 0 0)) 10 (.pref 10 [] 0 0)) 11 (.val (.int .i64 v26))) 12 (.val (.int .i64 v27))), (upd (upd (upd (upd RZ 0 (.sl true none 4 (some 1) [Topic.row a0])) 1 (.sl true none 4 (some 1) [Topic.row a1])) 9 (.sl true none 4 (some 1) [[.val (.string s18), .val (.int .i64 v19), .sl false none 1 none (l20.map (rowI .i64)), .sl false none 4 none (l21.map Sub.row)]])) 10 (.sl true none 4 (some 1) [[.val (.string s22), .val (.int .i64 v23), .sl false none 1 none (l24.map (rowI .i64)), .sl false none 4 none (l25.map Sub.row)]]))⟩)
  · intro hJ2
    refine Wk_seq (Wk_regionZ fun Z hZ => ?_)
    simp (config := { maxSteps := 4000000 }) only [go_sem, seval]
    refine hZ _ (pp (Wk_block ?_))
    apply Wk_join1 (fun (c28 : Bool) => ⟨tab 172 (updT (updT (updT (updT (updT (updT (updT (updT (updT (updT (updT deadT 0 (.pref 0 [] 0 0)) 1 (.pref 1 [] 0 0)) 5 (.pref 5 [] 0 0)) 7 (.pref 7 [] 0 0)) 8 (.val (.string r1.2))) 9 (.pref 9 [] 0 0)) 10 (.pref 10 [] 0 0)) 11 (.val (.int .i64 0))) 12 (.val (.int .i64 0))) 29 (.val (.int .u8 (Int.tmod a2.Kind 8)))) 38 (.val (.bool c28))), (upd (upd (upd (upd (upd (upd RZ 0 (.sl true none 4 (some 1) [Topic.row a0])) 1 (.sl true none 4 (some 1) [Topic.row a1])) 5 (.sl true none 3 (some 1) [actorgridlaw30_Act.row a2])) 7 (.sl true none 2 (some 1) [[.val (.string r1.1.Type_), .val (.string r1.1.Key)]])) 9 (.sl true none 4 (some 1) [Topic.row a0])) 10 (.sl true none 4 (some 1) [Topic.row a1]))⟩)
    · intro hJ3
      refine Wk_seq (Wk_regionZ fun Z hZ => ?_)
      simp (config := { maxSteps := 4000000 }) only [go_sem, seval]
      refine hZ _ (pp (Wk_cond_dec rfl (fun hc4 => ?_) (fun hc4 => ?_)))
      · have hc4d := decide_eq_true hc4
        first | rw [if_pos hc4] at h | rw [if_pos hc4d] at h | simp only [hc4d, Bool.not_true, Bool.not_false, Bool.false_eq_true, if_true, if_false] at h
        refine Wk_skip (pp (hJ3 _ true ?_ h))
        refine weak_roots ?_ ?_ <;> repeat' first | exact xn | exact rn | refine xc ?_ ?_ | refine rc ?_ ?_ ?_ | rfl | simp only [go_sem, seval, hc4d]
      have hc4d := decide_eq_false hc4
      first | rw [if_neg hc4] at h | rw [if_neg (ne_true_of_eq_false hc4d)] at h | simp only [hc4d, Bool.not_true, Bool.not_false, Bool.false_eq_true, if_true, if_false] at h
      refine Wk_seq (Wk_regionZ fun Z hZ => ?_)
      simp (config := { maxSteps := 4000000 }) only [go_sem, seval, hc4d]
      refine hZ _ (pp (Wk_cond_dec rfl (fun hc5 => ?_) (fun hc5 => ?_)))
      · have hc5d := decide_eq_true hc5
        first | rw [if_pos hc5] at h | rw [if_pos hc5d] at h | simp only [hc5d, Bool.not_true, Bool.not_false, Bool.false_eq_true, if_true, if_false] at h
        refine Wk_skip (pp (hJ3 _ true ?_ h))
        refine weak_roots ?_ ?_ <;> repeat' first | exact xn | exact rn | refine xc ?_ ?_ | refine rc ?_ ?_ ?_ | rfl | simp only [go_sem, seval, hc5d]
      have hc5d := decide_eq_false hc5
      first | rw [if_neg hc5] at h | rw [if_neg (ne_true_of_eq_false hc5d)] at h | simp only [hc5d, Bool.not_true, Bool.not_false, Bool.false_eq_true, if_true, if_false] at h
      refine Wk_regionZ fun Z hZ => ?_
      simp (config := { maxSteps := 4000000 }) only [go_sem, seval, hc5d]
      refine hZ _ (pp (hJ3 _ (decide ((Int.tmod a2.Kind 8) = 2)) ?_ h))
      refine weak_roots ?_ ?_ <;> repeat' first | exact xn | exact rn | refine xc ?_ ?_ | refine rc ?_ ?_ ?_ | rfl | simp only [go_sem, seval, Bool.or_self, List.length_set, Int.natCast_zero, Int.cast_ofNat_Int, hr1, hc4d, hc5d]
    intro c28 h
    unfold law30_play_J2 at h
    refine Wk_cond_bool rfl (fun hc6 => ?_) (fun hc6 => ?_)
    · first | rw [if_pos hc6] at h | simp only [hc6, Bool.or_false, Bool.or_true, Bool.false_or, Bool.true_or, Bool.and_true, Bool.true_and, Bool.and_false, Bool.false_and, Bool.not_true, Bool.not_false, Bool.false_eq_true, if_true, if_false] at h
      refine Wk_seq ?_
      obtain ⟨r29, hr7, h⟩ := Option.bind_eq_some_iff.1 h
      refine Wk_regionH fun Y hY => ?_
      refine RX2_s rfl rfl fun Z hZ => ?_
      simp (config := { maxSteps := 4000000 }) only [go_sem, seval, hc6]
      repeat with_reducible refine and_bar (by kernel_rfl) ?_
      refine hZ _ ?_
      refine RX2_s rfl rfl fun Z hZ => ?_
      simp (config := { maxSteps := 4000000 }) only [go_sem, seval]
      repeat with_reducible refine and_bar (by kernel_rfl) ?_
      refine hZ _ ?_
      refine RX2_s rfl rfl fun Z hZ => ?_
      simp (config := { maxSteps := 4000000 }) only [go_sem, seval]
      repeat with_reducible refine and_bar (by kernel_rfl) ?_
      refine hZ _ ?_
      refine RX2_s rfl rfl fun Z hZ => ?_
      simp (config := { maxSteps := 4000000 }) only [go_sem, seval]
      repeat with_reducible refine and_bar (by kernel_rfl) ?_
      refine hZ _ ?_
      refine RX2_s rfl rfl fun Z hZ => ?_
      simp (config := { maxSteps := 4000000 }) only [go_sem, seval]
      repeat with_reducible refine and_bar (by kernel_rfl) ?_
      refine hZ _ ?_
      refine RX2_s rfl rfl fun Z hZ => ?_
      simp (config := { maxSteps := 4000000 }) only [go_sem, seval, hr7]
      repeat with_reducible refine and_bar (by kernel_rfl) ?_
      refine hZ _ ?_
      refine RX2_s rfl rfl fun Z hZ => ?_
      simp (config := { maxSteps := 4000000 }) only [go_sem, seval]
      repeat with_reducible refine and_bar (by kernel_rfl) ?_
      refine hZ _ ?_
      refine RX2_s rfl rfl fun Z hZ => ?_
      simp (config := { maxSteps := 4000000 }) only [go_sem, seval]
      repeat with_reducible refine and_bar (by kernel_rfl) ?_
      refine hZ _ ?_
      refine RX2_s rfl rfl fun Z hZ => ?_
      simp (config := { maxSteps := 4000000 }) only [go_sem, seval]
      repeat with_reducible refine and_bar (by kernel_rfl) ?_
      refine hZ _ ?_
      refine RX2_s rfl rfl fun Z hZ => ?_
      simp (config := { maxSteps := 4000000 }) only [go_sem, seval]
      repeat with_reducible refine and_bar (by kernel_rfl) ?_
      refine hZ _ ?_
      refine RX2_w fun Z hZ => ?_
      simp (config := { maxSteps := 4000000 }) only [go_sem, seval]
      repeat with_reducible refine and_bar (by kernel_rfl) ?_
      refine hZ _ ?_
      refine RX2_s rfl rfl fun Z hZ => ?_
      simp (config := { maxSteps := 4000000 }) only [go_sem, seval]
      repeat with_reducible refine and_bar (by kernel_rfl) ?_
      refine hZ _ ?_
      refine RX2_end (by kernel_rfl) (hY _ (pp ?_))
      obtain ⟨r30, hr8, h⟩ := Option.bind_eq_some_iff.1 h
      refine Wk_regionH fun Y hY => ?_
      refine RX2_s rfl rfl fun Z hZ => ?_
      simp (config := { maxSteps := 4000000 }) only [go_sem, seval]
      repeat with_reducible refine and_bar (by kernel_rfl) ?_
      refine hZ _ ?_
      refine RX2_s rfl rfl fun Z hZ => ?_
      simp (config := { maxSteps := 4000000 }) only [go_sem, seval]
      repeat with_reducible refine and_bar (by kernel_rfl) ?_
      refine hZ _ ?_
      refine RX2_s rfl rfl fun Z hZ => ?_
      simp (config := { maxSteps := 4000000 }) only [go_sem, seval]
      repeat with_reducible refine and_bar (by kernel_rfl) ?_
      refine hZ _ ?_
      refine RX2_s rfl rfl fun Z hZ => ?_
      simp (config := { maxSteps := 4000000 }) only [go_sem, seval]
      repeat with_reducible refine and_bar (by kernel_rfl) ?_
      refine hZ _ ?_
      refine RX2_s rfl rfl fun Z hZ => ?_
      simp (config := { maxSteps := 4000000 }) only [go_sem, seval]
      repeat with_reducible refine and_bar (by kernel_rfl) ?_
      refine hZ _ ?_
      refine RX2_s rfl rfl fun Z hZ => ?_
      simp (config := { maxSteps := 4000000 }) only [go_sem, seval, hr8]
      repeat with_reducible refine and_bar (by kernel_rfl) ?_
      refine hZ _ ?_
      refine RX2_s rfl rfl fun Z hZ => ?_
      simp (config := { maxSteps := 4000000 }) only [go_sem, seval]
      repeat with_reducible refine and_bar (by kernel_rfl) ?_
      refine hZ _ ?_
      refine RX2_s rfl rfl fun Z hZ => ?_
      simp (config := { maxSteps := 4000000 }) only [go_sem, seval]
      repeat with_reducible refine and_bar (by kernel_rfl) ?_
      refine hZ _ ?_
      refine RX2_s rfl rfl fun Z hZ => ?_
      simp (config := { maxSteps := 4000000 }) only [go_sem, seval]
      repeat with_reducible refine and_bar (by kernel_rfl) ?_
      refine hZ _ ?_
      refine RX2_s rfl rfl fun Z hZ => ?_
      simp (config := { maxSteps := 4000000 }) only [go_sem, seval]
      repeat with_reducible refine and_bar (by kernel_rfl) ?_
      refine hZ _ ?_
      refine RX2_w fun Z hZ => ?_
      simp (config := { maxSteps := 4000000 }) only [go_sem, seval]
      repeat with_reducible refine and_bar (by kernel_rfl) ?_
      refine hZ _ ?_
      refine RX2_s rfl rfl fun Z hZ => ?_
      simp (config := { maxSteps := 4000000 }) only [go_sem, seval]
      repeat with_reducible refine and_bar (by kernel_rfl) ?_
      refine hZ _ ?_
      refine RX2_end (by kernel_rfl) (hY _ (pp (hJ2 _ r29.1.Name r29.1.First r29.1.Events r29.1.Subs r30.1.Name r30.1.First r30.1.Events r30.1.Subs r29.2.2 r30.2.2 ?_ h)))
      refine weak_roots ?_ ?_ <;> repeat' first | exact xn | exact rn | refine xc ?_ ?_ | refine rc ?_ ?_ ?_ | rfl | simp only [go_sem, seval, Bool.or_self, List.length_set, Int.natCast_zero, Int.cast_ofNat_Int, hr1, hc6, hr7, hr8]
    first | rw [if_neg (ne_true_of_eq_false hc6)] at h | simp only [hc6, Bool.or_false, Bool.or_true, Bool.false_or, Bool.true_or, Bool.and_true, Bool.true_and, Bool.and_false, Bool.false_and, Bool.not_true, Bool.not_false, Bool.false_eq_true, if_true, if_false] at h
    refine Wk_seq (Wk_regionZ fun Z hZ => ?_)
    simp (config := { maxSteps := 4000000 }) only [go_sem, seval, hc6]
    refine hZ _ (pp (Wk_cond_dec rfl (fun hc9 => ?_) (fun hc9 => ?_)))
    · have hc9d := decide_eq_true hc9
      first | rw [if_pos hc9] at h | rw [if_pos hc9d] at h | simp only [hc9d, Bool.not_true, Bool.not_false, Bool.false_eq_true, if_true, if_false] at h
      refine Wk_seq ?_
      obtain ⟨r31, hr10, h⟩ := Option.bind_eq_some_iff.1 h
      refine Wk_regionH fun Y hY => ?_
      refine RX2_s rfl rfl fun Z hZ => ?_
      simp (config := { maxSteps := 4000000 }) only [go_sem, seval, hc9d]
      repeat with_reducible refine and_bar (by kernel_rfl) ?_
      refine hZ _ ?_
      refine RX2_s rfl rfl fun Z hZ => ?_
      simp (config := { maxSteps := 4000000 }) only [go_sem, seval]
      repeat with_reducible refine and_bar (by kernel_rfl) ?_
      refine hZ _ ?_
      refine RX2_s rfl rfl fun Z hZ => ?_
      simp (config := { maxSteps := 4000000 }) only [go_sem, seval]
      repeat with_reducible refine and_bar (by kernel_rfl) ?_
      refine hZ _ ?_
      refine RX2_s rfl rfl fun Z hZ => ?_
      simp (config := { maxSteps := 4000000 }) only [go_sem, seval]
      repeat with_reducible refine and_bar (by kernel_rfl) ?_
      refine hZ _ ?_
      refine RX2_s rfl rfl fun Z hZ => ?_
      simp (config := { maxSteps := 4000000 }) only [go_sem, seval]
      repeat with_reducible refine and_bar (by kernel_rfl) ?_
      refine hZ _ ?_
      refine RX2_s rfl rfl fun Z hZ => ?_
      simp (config := { maxSteps := 4000000 }) only [go_sem, seval, hr10]
      repeat with_reducible refine and_bar (by kernel_rfl) ?_
      refine hZ _ ?_
      refine RX2_s rfl rfl fun Z hZ => ?_
      simp (config := { maxSteps := 4000000 }) only [go_sem, seval]
      repeat with_reducible refine and_bar (by kernel_rfl) ?_
      refine hZ _ ?_
      refine RX2_s rfl rfl fun Z hZ => ?_
      simp (config := { maxSteps := 4000000 }) only [go_sem, seval]
      repeat with_reducible refine and_bar (by kernel_rfl) ?_
      refine hZ _ ?_
      refine RX2_s rfl rfl fun Z hZ => ?_
      simp (config := { maxSteps := 4000000 }) only [go_sem, seval]
      repeat with_reducible refine and_bar (by kernel_rfl) ?_
      refine hZ _ ?_
      refine RX2_w fun Z hZ => ?_
      simp (config := { maxSteps := 4000000 }) only [go_sem, seval]
      repeat with_reducible refine and_bar (by kernel_rfl) ?_
      refine hZ _ ?_
      refine RX2_s rfl rfl fun Z hZ => ?_
      simp (config := { maxSteps := 4000000 }) only [go_sem, seval]
      repeat with_reducible refine and_bar (by kernel_rfl) ?_
      refine hZ _ ?_
      refine RX2_end (by kernel_rfl) (hY _ (pp ?_))
      obtain ⟨r32, hr11, h⟩ := Option.bind_eq_some_iff.1 h
      refine Wk_regionH fun Y hY => ?_
      refine RX2_s rfl rfl fun Z hZ => ?_
      simp (config := { maxSteps := 4000000 }) only [go_sem, seval]
      repeat with_reducible refine and_bar (by kernel_rfl) ?_
      refine hZ _ ?_
      refine RX2_s rfl rfl fun Z hZ => ?_
      simp (config := { maxSteps := 4000000 }) only [go_sem, seval]
      repeat with_reducible refine and_bar (by kernel_rfl) ?_
      refine hZ _ ?_
      refine RX2_s rfl rfl fun Z hZ => ?_
      simp (config := { maxSteps := 4000000 }) only [go_sem, seval]
      repeat with_reducible refine and_bar (by kernel_rfl) ?_
      refine hZ _ ?_
      refine RX2_s rfl rfl fun Z hZ => ?_
      simp (config := { maxSteps := 4000000 }) only [go_sem, seval]
      repeat with_reducible refine and_bar (by kernel_rfl) ?_
      refine hZ _ ?_
      refine RX2_s rfl rfl fun Z hZ => ?_
      simp (config := { maxSteps := 4000000 }) only [go_sem, seval]
      repeat with_reducible refine and_bar (by kernel_rfl) ?_
      refine hZ _ ?_
      refine RX2_s rfl rfl fun Z hZ => ?_
      simp (config := { maxSteps := 4000000 }) only [go_sem, seval, hr11]
      repeat with_reducible refine and_bar (by kernel_rfl) ?_
      refine hZ _ ?_
      refine RX2_s rfl rfl fun Z hZ => ?_
      simp (config := { maxSteps := 4000000 }) only [go_sem, seval]
      repeat with_reducible refine and_bar (by kernel_rfl) ?_
      refine hZ _ ?_
      refine RX2_s rfl rfl fun Z hZ => ?_
      simp (config := { maxSteps := 4000000 }) only [go_sem, seval]
      repeat with_reducible refine and_bar (by kernel_rfl) ?_
      refine hZ _ ?_
      refine RX2_s rfl rfl fun Z hZ => ?_
      simp (config := { maxSteps := 4000000 }) only [go_sem, seval]
      repeat with_reducible refine and_bar (by kernel_rfl) ?_
      refine hZ _ ?_
      refine RX2_w fun Z hZ => ?_
      simp (config := { maxSteps := 4000000 }) only [go_sem, seval]
      repeat with_reducible refine and_bar (by kernel_rfl) ?_
      refine hZ _ ?_
      refine RX2_s rfl rfl fun Z hZ => ?_
      simp (config := { maxSteps := 4000000 }) only [go_sem, seval]
      repeat with_reducible refine and_bar (by kernel_rfl) ?_
      refine hZ _ ?_
      refine RX2_end (by kernel_rfl) (hY _ (pp (hJ2 _ r31.1.Name r31.1.First r31.1.Events r31.1.Subs r32.1.Name r32.1.First r32.1.Events r32.1.Subs r31.2 r32.2 ?_ h)))
      refine weak_roots ?_ ?_ <;> repeat' first | exact xn | exact rn | refine xc ?_ ?_ | refine rc ?_ ?_ ?_ | rfl | simp only [go_sem, seval, Bool.or_self, List.length_set, Int.natCast_zero, Int.cast_ofNat_Int, hr1, hc6, hc9d, hr10, hr11]
    have hc9d := decide_eq_false hc9
    first | rw [if_neg hc9] at h | rw [if_neg (ne_true_of_eq_false hc9d)] at h | simp only [hc9d, Bool.not_true, Bool.not_false, Bool.false_eq_true, if_true, if_false] at h
    refine Wk_seq (Wk_regionZ fun Z hZ => ?_)
    simp (config := { maxSteps := 4000000 }) only [go_sem, seval, hc9d]
    refine hZ _ (pp (Wk_cond_dec rfl (fun hc12 => ?_) (fun hc12 => ?_)))
    · have hc12d := decide_eq_true hc12
      first | rw [if_pos hc12] at h | rw [if_pos hc12d] at h | simp only [hc12d, Bool.not_true, Bool.not_false, Bool.false_eq_true, if_true, if_false] at h
      refine Wk_seq (Wk_regionZ fun Z hZ => ?_)
      simp (config := { maxSteps := 4000000 }) only [go_sem, seval, hc12d]
      refine hZ _ (pp (sw (Wk_cond_dec rfl) (fun hc13 => ?_) (fun hc13 => ?_)))
      · have hc13d := decide_eq_false hc13
        first | rw [if_neg hc13] at h | rw [if_neg (ne_true_of_eq_false hc13d)] at h | simp only [hc13d, Bool.not_true, Bool.not_false, Bool.false_eq_true, if_true, if_false] at h
        refine Wk_skip (pp (hJ2 _ a0.Name a0.First a0.Events a0.Subs a1.Name a1.First a1.Events a1.Subs 0 0 ?_ h))
        refine weak_roots ?_ ?_ <;> repeat' first | exact xn | exact rn | refine xc ?_ ?_ | refine rc ?_ ?_ ?_ | rfl | simp only [go_sem, seval, Bool.or_self, List.length_set, Int.natCast_zero, Int.cast_ofNat_Int, hr1, hc6, hc9d, hc12d, hc13d]
      have hc13d := decide_eq_true hc13
      first | rw [if_pos hc13] at h | rw [if_pos hc13d] at h | simp only [hc13d, Bool.not_true, Bool.not_false, Bool.false_eq_true, if_true, if_false] at h
      refine Wk_seq ?_
      obtain ⟨r33, hr14, h⟩ := Option.bind_eq_some_iff.1 h
      refine Wk_regionH fun Y hY => ?_
      refine RX2_s rfl rfl fun Z hZ => ?_
      simp (config := { maxSteps := 4000000 }) only [go_sem, seval, hc13d]
      repeat with_reducible refine and_bar (by kernel_rfl) ?_
      refine hZ _ ?_
      refine RX2_s rfl rfl fun Z hZ => ?_
      simp (config := { maxSteps := 4000000 }) only [go_sem, seval]
      repeat with_reducible refine and_bar (by kernel_rfl) ?_
      refine hZ _ ?_
      refine RX2_s rfl rfl fun Z hZ => ?_
      simp (config := { maxSteps := 4000000 }) only [go_sem, seval]
      repeat with_reducible refine and_bar (by kernel_rfl) ?_
      refine hZ _ ?_
      refine RX2_s rfl rfl fun Z hZ => ?_
      simp (config := { maxSteps := 4000000 }) only [go_sem, seval]
      repeat with_reducible refine and_bar (by kernel_rfl) ?_
      refine hZ _ ?_
      refine RX2_s rfl rfl fun Z hZ => ?_
      simp (config := { maxSteps := 4000000 }) only [go_sem, seval]
      repeat with_reducible refine and_bar (by kernel_rfl) ?_
      refine hZ _ ?_
      refine RX2_s rfl rfl fun Z hZ => ?_
      simp (config := { maxSteps := 4000000 }) only [go_sem, seval, hr14]
      repeat with_reducible refine and_bar (by kernel_rfl) ?_
      refine hZ _ ?_
      refine RX2_s rfl rfl fun Z hZ => ?_
      simp (config := { maxSteps := 4000000 }) only [go_sem, seval]
      repeat with_reducible refine and_bar (by kernel_rfl) ?_
      refine hZ _ ?_
      refine RX2_s rfl rfl fun Z hZ => ?_
      simp (config := { maxSteps := 4000000 }) only [go_sem, seval]
      repeat with_reducible refine and_bar (by kernel_rfl) ?_
      refine hZ _ ?_
      refine RX2_s rfl rfl fun Z hZ => ?_
      simp (config := { maxSteps := 4000000 }) only [go_sem, seval]
      repeat with_reducible refine and_bar (by kernel_rfl) ?_
      refine hZ _ ?_
      refine RX2_w fun Z hZ => ?_
      simp (config := { maxSteps := 4000000 }) only [go_sem, seval]
      repeat with_reducible refine and_bar (by kernel_rfl) ?_
      refine hZ _ ?_
      refine RX2_s rfl rfl fun Z hZ => ?_
      simp (config := { maxSteps := 4000000 }) only [go_sem, seval]
      repeat with_reducible refine and_bar (by kernel_rfl) ?_
      refine hZ _ ?_
      refine RX2_end (by kernel_rfl) (hY _ (pp ?_))
      obtain ⟨r34, hr15, h⟩ := Option.bind_eq_some_iff.1 h
      refine Wk_regionH fun Y hY => ?_
      refine RX2_s rfl rfl fun Z hZ => ?_
      simp (config := { maxSteps := 4000000 }) only [go_sem, seval]
      repeat with_reducible refine and_bar (by kernel_rfl) ?_
      refine hZ _ ?_
      refine RX2_s rfl rfl fun Z hZ => ?_
      simp (config := { maxSteps := 4000000 }) only [go_sem, seval]
      repeat with_reducible refine and_bar (by kernel_rfl) ?_
      refine hZ _ ?_
      refine RX2_s rfl rfl fun Z hZ => ?_
      simp (config := { maxSteps := 4000000 }) only [go_sem, seval]
      repeat with_reducible refine and_bar (by kernel_rfl) ?_
      refine hZ _ ?_
      refine RX2_s rfl rfl fun Z hZ => ?_
      simp (config := { maxSteps := 4000000 }) only [go_sem, seval]
      repeat with_reducible refine and_bar (by kernel_rfl) ?_
      refine hZ _ ?_
      refine RX2_s rfl rfl fun Z hZ => ?_
      simp (config := { maxSteps := 4000000 }) only [go_sem, seval]
      repeat with_reducible refine and_bar (by kernel_rfl) ?_
      refine hZ _ ?_
      refine RX2_s rfl rfl fun Z hZ => ?_
      simp (config := { maxSteps := 4000000 }) only [go_sem, seval, hr15]
      repeat with_reducible refine and_bar (by kernel_rfl) ?_
      refine hZ _ ?_
      refine RX2_s rfl rfl fun Z hZ => ?_
      simp (config := { maxSteps := 4000000 }) only [go_sem, seval]
      repeat with_reducible refine and_bar (by kernel_rfl) ?_
      refine hZ _ ?_
      refine RX2_s rfl rfl fun Z hZ => ?_
      simp (config := { maxSteps := 4000000 }) only [go_sem, seval]
      repeat with_reducible refine and_bar (by kernel_rfl) ?_
      refine hZ _ ?_
      refine RX2_s rfl rfl fun Z hZ => ?_
      simp (config := { maxSteps := 4000000 }) only [go_sem, seval]
      repeat with_reducible refine and_bar (by kernel_rfl) ?_
      refine hZ _ ?_
      refine RX2_w fun Z hZ => ?_
      simp (config := { maxSteps := 4000000 }) only [go_sem, seval]
      repeat with_reducible refine and_bar (by kernel_rfl) ?_
      refine hZ _ ?_
      refine RX2_s rfl rfl fun Z hZ => ?_
      simp (config := { maxSteps := 4000000 }) only [go_sem, seval]
      repeat with_reducible refine and_bar (by kernel_rfl) ?_
      refine hZ _ ?_
      refine RX2_end (by kernel_rfl) (hY _ (pp (hJ2 _ r33.1.Name r33.1.First r33.1.Events r33.1.Subs r34.1.Name r34.1.First r34.1.Events r34.1.Subs r33.2 r34.2 ?_ h)))
      refine weak_roots ?_ ?_ <;> repeat' first | exact xn | exact rn | refine xc ?_ ?_ | refine rc ?_ ?_ ?_ | rfl | simp only [go_sem, seval, Bool.or_self, List.length_set, Int.natCast_zero, Int.cast_ofNat_Int, hr1, hc6, hc9d, hc12d, hc13d, hr14, hr15]
    have hc12d := decide_eq_false hc12
    first | rw [if_neg hc12] at h | rw [if_neg (ne_true_of_eq_false hc12d)] at h | simp only [hc12d, Bool.not_true, Bool.not_false, Bool.false_eq_true, if_true, if_false] at h
    apply Wk_join1 (fun (c35 : Bool) => ⟨tab 172 (updT (updT (updT (updT (updT (updT (updT (updT deadT 0 (.pref 0 [] 0 0)) 1 (.pref 1 [] 0 0)) 5 (.pref 5 [] 0 0)) 9 (.pref 9 [] 0 0)) 10 (.pref 10 [] 0 0)) 11 (.val (.int .i64 0))) 12 (.val (.int .i64 0))) 106 (.val (.bool c35))), (upd (upd (upd (upd (upd RZ 0 (.sl true none 4 (some 1) [Topic.row a0])) 1 (.sl true none 4 (some 1) [Topic.row a1])) 5 (.sl true none 3 (some 1) [actorgridlaw30_Act.row a2])) 9 (.sl true none 4 (some 1) [Topic.row a0])) 10 (.sl true none 4 (some 1) [Topic.row a1]))⟩)
    · intro hJ16
      refine Wk_seq (Wk_regionZ fun Z hZ => ?_)
      simp (config := { maxSteps := 4000000 }) only [go_sem, seval, hc12d]
      refine hZ _ (pp (Wk_cond_dec rfl (fun hc17 => ?_) (fun hc17 => ?_)))
      · have hc17d := decide_eq_true hc17
        first | rw [if_pos hc17] at h | rw [if_pos hc17d] at h | simp only [hc17d, Bool.not_true, Bool.not_false, Bool.false_eq_true, if_true, if_false] at h
        refine Wk_skip (pp (hJ16 _ true ?_ h))
        refine weak_roots ?_ ?_ <;> repeat' first | exact xn | exact rn | refine xc ?_ ?_ | refine rc ?_ ?_ ?_ | rfl | simp only [go_sem, seval, hc17d]
      have hc17d := decide_eq_false hc17
      first | rw [if_neg hc17] at h | rw [if_neg (ne_true_of_eq_false hc17d)] at h | simp only [hc17d, Bool.not_true, Bool.not_false, Bool.false_eq_true, if_true, if_false] at h
      refine Wk_regionZ fun Z hZ => ?_
      simp (config := { maxSteps := 4000000 }) only [go_sem, seval, hc17d]
      refine hZ _ (pp (hJ16 _ (decide ((Int.tmod a2.Kind 8) = 6)) ?_ h))
      refine weak_roots ?_ ?_ <;> repeat' first | exact xn | exact rn | refine xc ?_ ?_ | refine rc ?_ ?_ ?_ | rfl | simp only [go_sem, seval, Bool.or_self, List.length_set, Int.natCast_zero, Int.cast_ofNat_Int, hr1, hc6, hc9d, hc12d, hc17d]
    intro c35 h
    unfold law30_play_J1 at h
    refine sw (Wk_cond_bool rfl) (fun hc18 => ?_) (fun hc18 => ?_)
    · first | rw [if_neg (ne_true_of_eq_false hc18)] at h | simp only [hc18, hc6, Bool.or_false, Bool.or_true, Bool.false_or, Bool.true_or, Bool.and_true, Bool.true_and, Bool.and_false, Bool.false_and, Bool.not_true, Bool.not_false, Bool.false_eq_true, if_true, if_false] at h
      obtain ⟨r40, hr26, h⟩ := Option.bind_eq_some_iff.1 h
      obtain ⟨r41, hr27, h⟩ := Option.bind_eq_some_iff.1 h
      refine Wk_regionD fun Z hZ => ?_
      simp (config := { maxSteps := 4000000 }) only [go_sem, seval, hc18, hr26, hr27]
      repeat with_reducible refine and_bar (by kernel_rfl) ?_
      refine hZ _ (by kernel_rfl) (pp (hJ2 _ r40.Name r40.First r40.Events r40.Subs r41.Name r41.First r41.Events r41.Subs 0 0 ?_ h))
      refine weak_roots ?_ ?_ <;> repeat' first | exact xn | exact rn | refine xc ?_ ?_ | refine rc ?_ ?_ ?_ | rfl | simp only [go_sem, seval, Bool.or_self, List.length_set, Int.natCast_zero, Int.cast_ofNat_Int, hr1, hc6, hc9d, hc12d, hc18, hr26, hr27]
    first | rw [if_pos hc18] at h | simp only [hc18, hc6, Bool.or_false, Bool.or_true, Bool.false_or, Bool.true_or, Bool.and_true, Bool.true_and, Bool.and_false, Bool.false_and, Bool.not_true, Bool.not_false, Bool.false_eq_true, if_true, if_false] at h
    refine Wk_seq ?_
    obtain ⟨r36, hr19, h⟩ := Option.bind_eq_some_iff.1 h
    refine Wk_regionZ fun Z hZ => ?_
    simp (config := { maxSteps := 4000000 }) only [go_sem, seval, hc18, hr19]
    refine hZ _ (pp (Wk_seq (Wk_regionZ fun Z hZ => ?_)))
    simp (config := { maxSteps := 4000000 }) only [go_sem, seval]
    refine hZ _ (pp (sw (Wk_cond_dec rfl) (fun hc20 => ?_) (fun hc20 => ?_)))
    · have hc20d := decide_eq_false hc20
      first | rw [if_neg hc20] at h | rw [if_neg (ne_true_of_eq_false hc20d)] at h | simp only [hc20d, Bool.not_true, Bool.not_false, Bool.false_eq_true, if_true, if_false] at h
      refine Wk_skip (pp (hJ2 _ a0.Name a0.First a0.Events a0.Subs a1.Name a1.First a1.Events a1.Subs 0 0 ?_ h))
      refine weak_roots ?_ ?_ <;> repeat' first | exact xn | exact rn | refine xc ?_ ?_ | refine rc ?_ ?_ ?_ | rfl | simp only [go_sem, seval, Bool.or_self, List.length_set, Int.natCast_zero, Int.cast_ofNat_Int, hr1, hc6, hc9d, hc12d, hc18, hr19, hc20d]
    have hc20d := decide_eq_true hc20
    first | rw [if_pos hc20] at h | rw [if_pos hc20d] at h | simp only [hc20d, Bool.not_true, Bool.not_false, Bool.false_eq_true, if_true, if_false] at h
    refine Wk_seq ?_
    obtain ⟨hd21, h⟩ := dvx_some h
    obtain ⟨x37, hb22, hx23, h⟩ := gx_some h
    refine Wk_regionZ fun Z hZ => ?_
    simp (config := { maxSteps := 4000000 }) only [go_sem, seval, hc20d, hd21, hb22, hx23]
    refine hZ _ (pp (Wk_seq ?_))
    obtain ⟨r38, hr24, h⟩ := Option.bind_eq_some_iff.1 h
    refine Wk_regionH fun Y hY => ?_
    refine RX2_s rfl rfl fun Z hZ => ?_
    simp (config := { maxSteps := 4000000 }) only [go_sem, seval]
    repeat with_reducible refine and_bar (by kernel_rfl) ?_
    refine hZ _ ?_
    refine RX2_s rfl rfl fun Z hZ => ?_
    simp (config := { maxSteps := 4000000 }) only [go_sem, seval]
    repeat with_reducible refine and_bar (by kernel_rfl) ?_
    refine hZ _ ?_
    refine RX2_s rfl rfl fun Z hZ => ?_
    simp (config := { maxSteps := 4000000 }) only [go_sem, seval]
    repeat with_reducible refine and_bar (by kernel_rfl) ?_
    refine hZ _ ?_
    refine RX2_s rfl rfl fun Z hZ => ?_
    simp (config := { maxSteps := 4000000 }) only [go_sem, seval]
    repeat with_reducible refine and_bar (by kernel_rfl) ?_
    refine hZ _ ?_
    refine RX2_s rfl rfl fun Z hZ => ?_
    simp (config := { maxSteps := 4000000 }) only [go_sem, seval]
    repeat with_reducible refine and_bar (by kernel_rfl) ?_
    refine hZ _ ?_
    refine RX2_s rfl rfl fun Z hZ => ?_
    simp (config := { maxSteps := 4000000 }) only [go_sem, seval]
    repeat with_reducible refine and_bar (by kernel_rfl) ?_
    refine hZ _ ?_
    refine RX2_s rfl rfl fun Z hZ => ?_
    simp (config := { maxSteps := 4000000 }) only [go_sem, seval]
    repeat with_reducible refine and_bar (by kernel_rfl) ?_
    refine hZ _ ?_
    refine RX2_s rfl rfl fun Z hZ => ?_
    simp (config := { maxSteps := 4000000 }) only [go_sem, seval]
    repeat with_reducible refine and_bar (by kernel_rfl) ?_
    refine hZ _ ?_
    refine RX2_s rfl rfl fun Z hZ => ?_
    simp (config := { maxSteps := 4000000 }) only [go_sem, seval]
    repeat with_reducible refine and_bar (by kernel_rfl) ?_
    refine hZ _ ?_
    refine RX2_s rfl rfl fun Z hZ => ?_
    simp (config := { maxSteps := 4000000 }) only [go_sem, seval, hr24]
    repeat with_reducible refine and_bar (by kernel_rfl) ?_
    refine hZ _ ?_
    refine RX2_s rfl rfl fun Z hZ => ?_
    simp (config := { maxSteps := 4000000 }) only [go_sem, seval]
    repeat with_reducible refine and_bar (by kernel_rfl) ?_
    refine hZ _ ?_
    refine RX2_s rfl rfl fun Z hZ => ?_
    simp (config := { maxSteps := 4000000 }) only [go_sem, seval]
    repeat with_reducible refine and_bar (by kernel_rfl) ?_
    refine hZ _ ?_
    refine RX2_s rfl rfl fun Z hZ => ?_
    simp (config := { maxSteps := 4000000 }) only [go_sem, seval]
    repeat with_reducible refine and_bar (by kernel_rfl) ?_
    refine hZ _ ?_
    refine RX2_w fun Z hZ => ?_
    simp (config := { maxSteps := 4000000 }) only [go_sem, seval]
    repeat with_reducible refine and_bar (by kernel_rfl) ?_
    refine hZ _ ?_
    refine RX2_s rfl rfl fun Z hZ => ?_
    simp (config := { maxSteps := 4000000 }) only [go_sem, seval]
    repeat with_reducible refine and_bar (by kernel_rfl) ?_
    refine hZ _ ?_
    refine RX2_end (by kernel_rfl) (hY _ (pp ?_))
    obtain ⟨r39, hr25, h⟩ := Option.bind_eq_some_iff.1 h
    refine Wk_regionH fun Y hY => ?_
    refine RX2_s rfl rfl fun Z hZ => ?_
    simp (config := { maxSteps := 4000000 }) only [go_sem, seval]
    repeat with_reducible refine and_bar (by kernel_rfl) ?_
    refine hZ _ ?_
    refine RX2_s rfl rfl fun Z hZ => ?_
    simp (config := { maxSteps := 4000000 }) only [go_sem, seval]
    repeat with_reducible refine and_bar (by kernel_rfl) ?_
    refine hZ _ ?_
    refine RX2_s rfl rfl fun Z hZ => ?_
    simp (config := { maxSteps := 4000000 }) only [go_sem, seval]
    repeat with_reducible refine and_bar (by kernel_rfl) ?_
    refine hZ _ ?_
    refine RX2_s rfl rfl fun Z hZ => ?_
    simp (config := { maxSteps := 4000000 }) only [go_sem, seval]
    repeat with_reducible refine and_bar (by kernel_rfl) ?_
    refine hZ _ ?_
    refine RX2_s rfl rfl fun Z hZ => ?_
    simp (config := { maxSteps := 4000000 }) only [go_sem, seval]
    repeat with_reducible refine and_bar (by kernel_rfl) ?_
    refine hZ _ ?_
    refine RX2_s rfl rfl fun Z hZ => ?_
    simp (config := { maxSteps := 4000000 }) only [go_sem, seval]
    repeat with_reducible refine and_bar (by kernel_rfl) ?_
    refine hZ _ ?_
    refine RX2_s rfl rfl fun Z hZ => ?_
    simp (config := { maxSteps := 4000000 }) only [go_sem, seval]
    repeat with_reducible refine and_bar (by kernel_rfl) ?_
    refine hZ _ ?_
    refine RX2_s rfl rfl fun Z hZ => ?_
    simp (config := { maxSteps := 4000000 }) only [go_sem, seval]
    repeat with_reducible refine and_bar (by kernel_rfl) ?_
    refine hZ _ ?_
    refine RX2_s rfl rfl fun Z hZ => ?_
    simp (config := { maxSteps := 4000000 }) only [go_sem, seval]
    repeat with_reducible refine and_bar (by kernel_rfl) ?_
    refine hZ _ ?_
    refine RX2_s rfl rfl fun Z hZ => ?_
    simp (config := { maxSteps := 4000000 }) only [go_sem, seval, hr25]
    repeat with_reducible refine and_bar (by kernel_rfl) ?_
    refine hZ _ ?_
    refine RX2_s rfl rfl fun Z hZ => ?_
    simp (config := { maxSteps := 4000000 }) only [go_sem, seval]
    repeat with_reducible refine and_bar (by kernel_rfl) ?_
    refine hZ _ ?_
    refine RX2_s rfl rfl fun Z hZ => ?_
    simp (config := { maxSteps := 4000000 }) only [go_sem, seval]
    repeat with_reducible refine and_bar (by kernel_rfl) ?_
    refine hZ _ ?_
    refine RX2_s rfl rfl fun Z hZ => ?_
    simp (config := { maxSteps := 4000000 }) only [go_sem, seval]
    repeat with_reducible refine and_bar (by kernel_rfl) ?_
    refine hZ _ ?_
    refine RX2_w fun Z hZ => ?_
    simp (config := { maxSteps := 4000000 }) only [go_sem, seval]
    repeat with_reducible refine and_bar (by kernel_rfl) ?_
    refine hZ _ ?_
    refine RX2_s rfl rfl fun Z hZ => ?_
    simp (config := { maxSteps := 4000000 }) only [go_sem, seval]
    repeat with_reducible refine and_bar (by kernel_rfl) ?_
    refine hZ _ ?_
    refine RX2_end (by kernel_rfl) (hY _ (pp (hJ2 _ r38.1.Name r38.1.First r38.1.Events r38.1.Subs r39.1.Name r39.1.First r39.1.Events r39.1.Subs r38.2 r39.2 ?_ h)))
    refine weak_roots ?_ ?_ <;> repeat' first | exact xn | exact rn | refine xc ?_ ?_ | refine rc ?_ ?_ ?_ | rfl | simp only [go_sem, seval, Bool.or_self, List.length_set, Int.natCast_zero, Int.cast_ofNat_Int, hr1, hc6, hc9d, hc12d, hc18, hr19, hc20d, hd21, hb22, hx23, hr24, hr25]
  intro s18 v19 l20 l21 s22 v23 l24 l25 v26 v27 h
  unfold law30_play_J6 at h
  refine Wk_seq ?_
  apply Wk_join1 (fun (c46 : Bool) => ⟨tab 172 (updT (updT (updT (updT (updT (updT deadT 0 (.pref 0 [] 0 0)) 1 (.pref 1 [] 0 0)) 9 (.pref 9 [] 0 0)) 10 (.pref 10 [] 0 0)) 11 (.val (.int .i64 v26))) 159 (.val (.bool c46))), (upd (upd (upd (upd RZ 0 (.sl true none 4 (some 1) [Topic.row a0])) 1 (.sl true none 4 (some 1) [Topic.row a1])) 9 (.sl true none 4 (some 1) [[.val (.string s18), .val (.int .i64 v19), .sl false none 1 none (l20.map (rowI .i64)), .sl false none 4 none (l21.map Sub.row)]])) 10 (.sl true none 4 (some 1) [[.val (.string s22), .val (.int .i64 v23), .sl false none 1 none (l24.map (rowI .i64)), .sl false none 4 none (l25.map Sub.row)]]))⟩)
  · intro hJ28
    refine Wk_regionZ fun Z hZ => ?_
    simp (config := { maxSteps := 4000000 }) only [go_sem, seval]
    refine RX_guard_ndec rfl (fun hc29 => ?_) (fun hc29 => ?_)
    · have hc29d := decide_eq_false hc29
      first | rw [if_neg hc29] at h | rw [if_neg (ne_true_of_eq_false hc29d)] at h | simp only [hc29d, Bool.not_true, Bool.not_false, Bool.false_eq_true, if_true, if_false] at h
      simp (config := { maxSteps := 4000000 }) only [go_sem, seval, hc29d]
      refine hZ _ (pp (hJ28 _ true ?_ h))
      refine weak_roots ?_ ?_ <;> repeat' first | exact xn | exact rn | refine xc ?_ ?_ | refine rc ?_ ?_ ?_ | rfl | simp only [go_sem, seval, Bool.or_self, List.length_set, Int.natCast_zero, Int.cast_ofNat_Int, hr1, hc29d]
    have hc29d := decide_eq_true hc29
    first | rw [if_pos hc29] at h | rw [if_pos hc29d] at h | simp only [hc29d, Bool.not_true, Bool.not_false, Bool.false_eq_true, if_true, if_false] at h
    obtain ⟨r47, hr30, h⟩ := Option.bind_eq_some_iff.1 h
    simp (config := { maxSteps := 4000000 }) only [go_sem, seval, hc29d, hr30]
    refine hZ _ (pp (hJ28 _ (!r47) ?_ h))
    refine weak_roots ?_ ?_ <;> repeat' first | exact xn | exact rn | refine xc ?_ ?_ | refine rc ?_ ?_ ?_ | rfl | simp only [go_sem, seval, Bool.or_self, List.length_set, Int.natCast_zero, Int.cast_ofNat_Int, hr1, hc29d, hr30]
  intro c46 h
  unfold law30_play_J3 at h
  refine Wk_cond_bool rfl (fun hc31 => ?_) (fun hc31 => ?_)
  · first | rw [if_pos hc31] at h | simp only [hc31, Bool.or_false, Bool.or_true, Bool.false_or, Bool.true_or, Bool.and_true, Bool.true_and, Bool.and_false, Bool.false_and, Bool.not_true, Bool.not_false, Bool.false_eq_true, if_true, if_false] at h
    refine Wk_seq (Wk_regionZ fun Z hZ => ?_)
    simp (config := { maxSteps := 4000000 }) only [go_sem, seval, hc31]
    refine hZ _ (pp (Wk_ret (pp ?_)))
    cases h
    refine FinL_mk (.inl rfl) (Weak.trans (weak_tells (n := 0) ([[.val (.string a0.Name), .val (.int .i64 a0.First), .sl false none 1 none (a0.Events.map (rowI .i64)), .sl false none 4 none (a0.Subs.map Sub.row)]]) (by (try simp only [go_sem]); rfl) (by simp only [go_sem, seval]; rfl) (by simp only [poiT_updT, poiT_deadT, go_sem, seval]; rfl)) (weak_tells (n := 1) ([[.val (.string a1.Name), .val (.int .i64 a1.First), .sl false none 1 none (a1.Events.map (rowI .i64)), .sl false none 4 none (a1.Subs.map Sub.row)]]) (by (try simp only [go_sem]); rfl) (by simp only [go_sem, seval]; rfl) (by simp only [poiT_updT, poiT_deadT, go_sem, seval]; rfl))) (by simp only [go_sem, seval]; rfl) (by simp only [go_sem, seval]; rfl) (by simp only [go_sem, seval]; first | exact Le.refl _ | exact LeI.h) ?_
    exact el_cons (by simp only [go_sem, seval] <;> rfl) (by simp only [go_sem, seval] <;> rfl) (el_cons (by simp only [go_sem, seval] <;> rfl) (by simp only [go_sem, seval] <;> rfl) (el_nil))
  first | rw [if_neg (ne_true_of_eq_false hc31)] at h | simp only [hc31, Bool.or_false, Bool.or_true, Bool.false_or, Bool.true_or, Bool.and_true, Bool.true_and, Bool.and_false, Bool.false_and, Bool.not_true, Bool.not_false, Bool.false_eq_true, if_true, if_false] at h
  refine Wk_skip (pp ?_)
  unfold law30_play_J5 at h
  apply Wk_join8 (fun (s48 : ByteArray) (v49 : Int) (l50 : List Int) (l51 : List Sub) (s52 : ByteArray) (v53 : Int) (l54 : List Int) (l55 : List Sub) => ⟨tab 172 (updT (updT deadT 0 (.pref 0 [] 0 0)) 1 (.pref 1 [] 0 0)), (upd (upd RZ 0 (.sl true none 4 (some 1) [[.val (.string s48), .val (.int .i64 v49), .sl false none 1 none (l50.map (rowI .i64)), .sl false none 4 none (l51.map Sub.row)]])) 1 (.sl true none 4 (some 1) [[.val (.string s52), .val (.int .i64 v53), .sl false none 1 none (l54.map (rowI .i64)), .sl false none 4 none (l55.map Sub.row)]]))⟩)
  · intro hJ32
    refine Wk_seq (Wk_regionZ fun Z hZ => ?_)
    simp (config := { maxSteps := 4000000 }) only [go_sem, seval, hc31]
    refine hZ _ (pp (sw (Wk_cond_dec rfl) (fun hc33 => ?_) (fun hc33 => ?_)))
    · have hc33d := decide_eq_false hc33
      first | rw [if_neg hc33] at h | rw [if_neg (ne_true_of_eq_false hc33d)] at h | simp only [hc33d, Bool.not_true, Bool.not_false, Bool.false_eq_true, if_true, if_false] at h
      refine Wk_skip (pp (hJ32 _ a0.Name a0.First a0.Events a0.Subs a1.Name a1.First a1.Events a1.Subs ?_ h))
      refine weak_roots ?_ ?_ <;> repeat' first | exact xn | exact rn | refine xc ?_ ?_ | refine rc ?_ ?_ ?_ | rfl | simp only [go_sem, seval, Bool.or_self, List.length_set, Int.natCast_zero, Int.cast_ofNat_Int, hr1, hc31, hc33d]
    have hc33d := decide_eq_true hc33
    first | rw [if_pos hc33] at h | rw [if_pos hc33d] at h | simp only [hc33d, Bool.not_true, Bool.not_false, Bool.false_eq_true, if_true, if_false] at h
    refine Wk_regionH fun Y hY => ?_
    refine RX2_s rfl rfl fun Z hZ => ?_
    simp (config := { maxSteps := 4000000 }) only [go_sem, seval, hc33d]
    repeat with_reducible refine and_bar (by kernel_rfl) ?_
    refine hZ _ ?_
    refine RX2_s rfl rfl fun Z hZ => ?_
    simp (config := { maxSteps := 4000000 }) only [go_sem, seval]
    repeat with_reducible refine and_bar (by kernel_rfl) ?_
    refine hZ _ ?_
    refine RX2_s rfl rfl fun Z hZ => ?_
    simp (config := { maxSteps := 4000000 }) only [go_sem, seval]
    repeat with_reducible refine and_bar (by kernel_rfl) ?_
    refine hZ _ ?_
    refine RX2_s rfl rfl fun Z hZ => ?_
    simp (config := { maxSteps := 4000000 }) only [go_sem, seval]
    repeat with_reducible refine and_bar (by kernel_rfl) ?_
    refine hZ _ ?_
    refine RX2_s rfl rfl fun Z hZ => ?_
    simp (config := { maxSteps := 4000000 }) only [go_sem, seval]
    repeat with_reducible refine and_bar (by kernel_rfl) ?_
    refine hZ _ ?_
    refine RX2_w fun Z hZ => ?_
    simp (config := { maxSteps := 4000000 }) only [go_sem, seval]
    repeat with_reducible refine and_bar (by kernel_rfl) ?_
    refine hZ _ ?_
    refine RX2_s rfl rfl fun Z hZ => ?_
    simp (config := { maxSteps := 4000000 }) only [go_sem, seval]
    repeat with_reducible refine and_bar (by kernel_rfl) ?_
    refine hZ _ ?_
    refine RX2_w fun Z hZ => ?_
    simp (config := { maxSteps := 4000000 }) only [go_sem, seval]
    repeat with_reducible refine and_bar (by kernel_rfl) ?_
    refine hZ _ ?_
    refine RX2_end (by kernel_rfl) (hY _ (pp (hJ32 _ s18 v19 l20 l21 s22 v23 l24 l25 ?_ h)))
    refine weak_roots ?_ ?_ <;> repeat' first | exact xn | exact rn | refine xc ?_ ?_ | refine rc ?_ ?_ ?_ | rfl | simp only [go_sem, seval, Bool.or_self, List.length_set, Int.natCast_zero, Int.cast_ofNat_Int, hr1, hc31, hc33d]
  intro s48 v49 l50 l51 s52 v53 l54 l55 h
  unfold law30_play_J4 at h
  refine Wk_seq ?_
  obtain ⟨r56, hr34, h⟩ := Option.bind_eq_some_iff.1 h
  refine Wk_regionZ fun Z hZ => ?_
  simp (config := { maxSteps := 4000000 }) only [go_sem, seval, hr34]
  refine hZ _ (pp (Wk_ret (pp ?_)))
  cases h
  refine FinL_mk (.inl rfl) (Weak.trans (weak_tells (n := 0) ([[.val (.string s48), .val (.int .i64 v49), .sl false none 1 none (l50.map (rowI .i64)), .sl false none 4 none (l51.map Sub.row)]]) (by (try simp only [go_sem]); rfl) (by simp only [go_sem, seval]; rfl) (by simp only [poiT_updT, poiT_deadT, go_sem, seval]; rfl)) (weak_tells (n := 1) ([[.val (.string s52), .val (.int .i64 v53), .sl false none 1 none (l54.map (rowI .i64)), .sl false none 4 none (l55.map Sub.row)]]) (by (try simp only [go_sem]); rfl) (by simp only [go_sem, seval]; rfl) (by simp only [poiT_updT, poiT_deadT, go_sem, seval]; rfl))) (by simp only [go_sem, seval]; rfl) (by simp only [go_sem, seval]; rfl) (by simp only [go_sem, seval]; first | exact Le.refl _ | exact LeI.h) ?_
  exact el_cons (by simp only [go_sem, seval] <;> rfl) (by simp only [go_sem, seval] <;> rfl) (el_cons (by simp only [go_sem, seval] <;> rfl) (by simp only [go_sem, seval] <;> rfl) (el_nil))
def fl_law30_play (N : Nat) : FnL := ⟨2, fun cs rest => match cs, rest with
  | [v0, v1], [c2] => (var1 4 Topic.dec v0).bind fun q0 => (var1 4 Topic.dec v1).bind fun q1 => (actorgridlaw30_Act.decA c2).bind fun q2 => (law30_play N q0 q1 q2).map fun r => (.val (.bool r.1), [.sl true none 4 (some 1) [Topic.row r.2.1], .sl true none 4 (some 1) [Topic.row r.2.2]])
  | _, _ => none⟩
attribute [go_sem] fl_law30_play
theorem fl_law30_play_ok (N : Nat) : FLOk Try.prog 9 (fl_law30_play N) := by
  intro cs rest r ls hlen h
  simp only [fl_law30_play] at h
  split at h
  · simp only [Option.bind_eq_some_iff, Option.map_eq_some_iff] at h
    obtain ⟨q0, h0, q1, h1, q2, h2, r', hr, he⟩ := h
    cases he
    exact ConL.told rfl rfl (lv_cons (var1_ok Topic.row_ok Topic.dec_le h0) (lv_cons (var1_ok Topic.row_ok Topic.dec_le h1) (lv_nil))) (LeL.cons (actorgridlaw30_Act.decA_le h2) (LeL.nil)) (w_law30_play N q0 q1 q2 r' hr)
  · cases h


noncomputable def G_law30_StreamsTrim (N d f : Nat) : Option FnS := glist [(10, 6, fs_law30_awake N), (16, 7, fs_streams_New N), (35, 14, fs_streams_Trim N), (37, 17, fs_streams_End N), (39, 17, fs_streams_End N), (43, 15, fs_streams_Pending N), (45, 15, fs_streams_Pending N), (46, 18, fs_ref29_SameDeliveries N), (51, 19, fs_streams_Valid N), (64, 17, fs_streams_End N), (86, 14, fs_streams_Trim N), (88, 20, fs_ref29_SameTopic N)] d f
attribute [go_sem] G_law30_StreamsTrim
noncomputable def L_law30_StreamsTrim (N d f : Nat) : Option FnL := llist [(32, 9, fl_law30_play N)] d f
attribute [go_sem] L_law30_StreamsTrim
theorem w_law30_StreamsTrim (N : Nat) (a0 : (List actorgridlaw30_Act)) (r : Bool) (h : law30_StreamsTrim N a0 = some r) : Con Try.prog 5 [] true [.sl false none 3 none (a0.map actorgridlaw30_Act.row)] (.val (.bool r)) := by
  refine fun_ok5 (G := (G_law30_StreamsTrim N)) (L := (L_law30_StreamsTrim N)) Try.func5 rfl (by decide) (by kernel_rfl) (gc 10 (fs_law30_awake_ok N) (gc 16 (fs_streams_New_ok N) (gc 35 (fs_streams_Trim_ok N) (gc 37 (fs_streams_End_ok N) (gc 39 (fs_streams_End_ok N) (gc 43 (fs_streams_Pending_ok N) (gc 45 (fs_streams_Pending_ok N) (gc 46 (fs_ref29_SameDeliveries_ok N) (gc 51 (fs_streams_Valid_ok N) (gc 64 (fs_streams_End_ok N) (gc 86 (fs_streams_Trim_ok N) (gc 88 (fs_ref29_SameTopic_ok N) gn)))))))))))) (lc 32 (fl_law30_play_ok N) ln) [] mix (Nat.le_of_ble_eq_true rfl) ?_
  simp only [Try.f5]
  unfold law30_StreamsTrim at h
  refine Wk_seq (Wk_regionZ fun Z hZ => ?_)
  simp only [go_sem, seval]
  refine hZ _ (pp (Wk_seq (Wk_seq ?_)))
  obtain ⟨r1, hr1, h⟩ := Option.bind_eq_some_iff.1 h
  refine Wk_regionZ fun Z hZ => ?_
  simp only [go_sem, seval, hr1]
  refine hZ _ (pp (Wk_cond_nbool rfl (fun hc2 => ?_) (fun hc2 => ?_)))
  · rw [if_neg (ne_true_of_eq_false hc2)] at h
    refine Wk_seq (Wk_regionZ fun Z hZ => ?_)
    simp only [go_sem, seval, hc2]
    refine hZ _ (pp (Wk_ret (pp ?_)))
    cases h
    simp only [go_sem, seval]
    exact ⟨_, rfl, RokI.h, PureI.h⟩
  rw [if_pos hc2] at h
  refine Wk_skip (pp (Wk_seq (Wk_seq (Wk_regionZ fun Z hZ => ?_))))
  simp only [go_sem, seval, hc2]
  refine hZ _ (pp (Wk_cond_dec rfl (fun hc3 => ?_) (fun hc3 => ?_)))
  · have hc3d := decide_eq_true hc3
    rw [if_pos hc3] at h
    refine Wk_seq (Wk_regionZ fun Z hZ => ?_)
    simp only [go_sem, seval, hc3d]
    refine hZ _ (pp (Wk_ret (pp ?_)))
    cases h
    simp only [go_sem, seval]
    exact ⟨_, rfl, RokI.h, PureI.h⟩
  have hc3d := decide_eq_false hc3
  rw [if_neg hc3] at h
  refine Wk_skip (pp (Wk_seq ?_))
  obtain ⟨r2, hr4, h⟩ := Option.bind_eq_some_iff.1 h
  refine Wk_regionZ fun Z hZ => ?_
  simp only [go_sem, seval, hc3d, hr4]
  refine hZ _ (pp (Wk_seq (Wk_seq (Wk_regionZ fun Z hZ => ?_))))
  simp only [go_sem, seval]
  refine hZ _ (pp (Wk_cond_ndec rfl (fun hc5 => ?_) (fun hc5 => ?_)))
  · have hc5d := decide_eq_false hc5
    rw [if_neg hc5] at h
    refine Wk_seq (Wk_regionZ fun Z hZ => ?_)
    simp only [go_sem, seval, hc5d]
    refine hZ _ (pp (Wk_ret (pp ?_)))
    cases h
    simp only [go_sem, seval]
    exact ⟨_, rfl, RokI.h, PureI.h⟩
  have hc5d := decide_eq_true hc5
  rw [if_pos hc5] at h
  refine Wk_skip (pp (Wk_seq (Wk_regionZ fun Z hZ => ?_)))
  simp only [go_sem, seval, hc5d]
  refine hZ _ (pp (Wk_seq (Wk_seq (Wk_regionZ fun Z hZ => ?_))))
  simp only [go_sem, seval]
  refine hZ _ (pp (Wk_block (Wk_real fun hreal7 => ?_)))
  have hl6 := hreal7.lenT 0 (by decide) (by simp only [go_sem, seval]; rfl)
  rw [List.length_map] at hl6
  refine Wk_range (fun (v15 : Nat) (b : ByteArray × Int × List Int × List Sub × ByteArray × Int × List Int × List Sub) => ⟨tab 90 (updT (updT (updT (updT deadT 0 (.sl false none 3 none (a0.map actorgridlaw30_Act.row))) 3 (.pref 3 [] 0 0)) 5 (.pref 5 [] 0 0)) 6 (.val (.int .i64 ((v15 : Nat) : Int)))), (upd (upd RZ 3 (.sl true none 4 (some 1) [[.val (.string b.1), .val (.int .i64 b.2.1), .sl false none 1 none (b.2.2.1.map (rowI .i64)), .sl false none 4 none (b.2.2.2.1.map Sub.row)]])) 5 (.sl true none 4 (some 1) [[.val (.string b.2.2.2.2.1), .val (.int .i64 b.2.2.2.2.2.1), .sl false none 1 none (b.2.2.2.2.2.2.1.map (rowI .i64)), .sl false none 4 none (b.2.2.2.2.2.2.2.map Sub.row)]]))⟩) (r2.1.Name, r2.1.First, r2.1.Events, r2.1.Subs, r2.1.Name, r2.1.First, r2.1.Events, r2.1.Subs) h ?_ ?_
  · refine weak_roots ?_ ?_ <;> repeat' first | exact xn | exact rn | refine xc ?_ ?_ | refine rc ?_ ?_ ?_ | rfl
  rintro v15 ⟨s7, v8, l9, l10, s11, v12, l13, l14⟩ hi8 h -
  rcases (drop_cases a0 v15 hi8) with ⟨x18, hi8', hx9, hd11⟩ | ⟨hi8', _, hd11⟩
  · rw [hd11] at h
    simp only [law30_StreamsTrim_L1] at h
    have hw10 := wrap_succ hi8' hl6
    refine Wk_seq (Wk_seq (Wk_regionZ fun Z hZ => ?_))
    simp only [go_sem, seval, hi8']
    refine hZ _ (pp ?_)
    try simp only [Int.ofNat_lt, hi8', if_true, if_false] at h
    refine Wk_cond_t rfl (Wk_skip (pp (Wk_seq (Wk_block (Wk_seq ?_)))))
    try rw [gx_nat hx9] at h
    obtain ⟨r20, hr12, h⟩ := Option.bind_eq_some_iff.1 h
    refine Wk_regionZ fun Z hZ => ?_
    simp only [go_sem, seval, hx9, hi8', hr12]
    refine hZ _ (pp (Wk_cond_nbool rfl (fun hc13 => ?_) (fun hc13 => ?_)))
    · rw [if_neg (ne_true_of_eq_false hc13)] at h
      refine Wk_seq (Wk_regionZ fun Z hZ => ?_)
      simp only [go_sem, seval, hc13]
      refine hZ _ (pp (Wk_ret (pp ?_)))
      cases h
      simp only [go_sem, seval]
      exact ⟨_, rfl, RokI.h, PureI.h⟩
    rw [if_pos hc13] at h
    refine Wk_skip (pp (Wk_regionZ fun Z hZ => ?_))
    simp only [go_sem, seval, hw10, hc13]
    refine hZ _ (pp ?_)
    first | refine ⟨(r20.2.1.Name, r20.2.1.First, r20.2.1.Events, r20.2.1.Subs, r20.2.2.Name, r20.2.2.First, r20.2.2.Events, r20.2.2.Subs), ?_, h⟩ | refine ⟨hi8', (r20.2.1.Name, r20.2.1.First, r20.2.1.Events, r20.2.1.Subs, r20.2.2.Name, r20.2.2.First, r20.2.2.Events, r20.2.2.Subs), ?_, h⟩
    refine weak_roots ?_ ?_ <;> repeat' first | exact xn | exact rn | refine xc ?_ ?_ | refine rc ?_ ?_ ?_ | rfl
  rw [hd11] at h
  simp only [law30_StreamsTrim_L1] at h
  refine Wk_seq (Wk_seq (Wk_regionZ fun Z hZ => ?_))
  simp only [go_sem, seval, hi8']
  refine hZ _ (pp ?_)
  try simp only [Int.ofNat_lt, hi8', if_true, if_false] at h
  refine Wk_cond_f rfl (Wk_exit (pp ?_))
  unfold law30_StreamsTrim_J4 at h
  refine Wk_seq ?_
  obtain ⟨r21, hr14, h⟩ := Option.bind_eq_some_iff.1 h
  refine Wk_regionZ fun Z hZ => ?_
  simp only [go_sem, seval, hr14]
  refine hZ _ (pp (Wk_seq ?_))
  apply Wk_join1 (fun (c36 : Bool) => ⟨tab 90 (updT (updT (updT deadT 3 (.pref 3 [] 0 0)) 7 (.pref 7 [] 0 0)) 62 (.val (.bool c36))), (upd (upd RZ 3 (.sl true none 4 (some 1) [[.val (.string s7), .val (.int .i64 v8), .sl false none 1 none (l9.map (rowI .i64)), .sl false none 4 none (l10.map Sub.row)]])) 7 (.sl true none 4 (some 1) [Topic.row r21]))⟩)
  · intro hJ15
    obtain ⟨r37, hr16, h⟩ := Option.bind_eq_some_iff.1 h
    obtain ⟨r38, hr17, h⟩ := Option.bind_eq_some_iff.1 h
    refine Wk_regionD fun Z hZ => ?_
    simp only [go_sem, seval, hr16, hr17]
    repeat with_reducible refine and_bar (by kernel_rfl) ?_
    refine RX_guard_ndec rfl (fun hc18 => ?_) (fun hc18 => ?_)
    · have hc18d := decide_eq_false hc18
      rw [if_neg hc18] at h
      simp only [go_sem, seval, hc18d]
      refine hZ _ (by kernel_rfl) (pp (hJ15 _ true ?_ h))
      refine weak_roots ?_ ?_ <;> repeat' first | exact xn | exact rn | refine xc ?_ ?_ | refine rc ?_ ?_ ?_ | rfl
    have hc18d := decide_eq_true hc18
    rw [if_pos hc18] at h
    obtain ⟨r39, hr19, h⟩ := Option.bind_eq_some_iff.1 h
    obtain ⟨r40, hr20, h⟩ := Option.bind_eq_some_iff.1 h
    obtain ⟨r41, hr21, h⟩ := Option.bind_eq_some_iff.1 h
    simp only [go_sem, seval, hc18d, hr19, hr20, hr21]
    repeat with_reducible refine and_bar (by kernel_rfl) ?_
    refine RX_guard_nbool rfl (fun hc22 => ?_) (fun hc22 => ?_)
    · rw [if_neg (ne_true_of_eq_false hc22)] at h
      simp only [go_sem, seval, hc22]
      refine hZ _ (by kernel_rfl) (pp (hJ15 _ true ?_ h))
      refine weak_roots ?_ ?_ <;> repeat' first | exact xn | exact rn | refine xc ?_ ?_ | refine rc ?_ ?_ ?_ | rfl
    rw [if_pos hc22] at h
    obtain ⟨r42, hr23, h⟩ := Option.bind_eq_some_iff.1 h
    simp only [go_sem, seval, hc22, hr23]
    repeat with_reducible refine and_bar (by kernel_rfl) ?_
    refine RX_guard_nbool rfl (fun hc24 => ?_) (fun hc24 => ?_)
    · rw [if_neg (ne_true_of_eq_false hc24)] at h
      simp only [go_sem, seval, hc24]
      refine hZ _ (by kernel_rfl) (pp (hJ15 _ true ?_ h))
      refine weak_roots ?_ ?_ <;> repeat' first | exact xn | exact rn | refine xc ?_ ?_ | refine rc ?_ ?_ ?_ | rfl
    rw [if_pos hc24] at h
    simp only [go_sem, seval, hc24]
    repeat with_reducible refine and_bar (by kernel_rfl) ?_
    refine hZ _ (by kernel_rfl) (pp (hJ15 _ (!decide (((r21.Subs.length : Nat) : Int) = ((l10.length : Nat) : Int))) ?_ h))
    refine weak_roots ?_ ?_ <;> repeat' first | exact xn | exact rn | refine xc ?_ ?_ | refine rc ?_ ?_ ?_ | rfl
  intro c36 h
  unfold law30_StreamsTrim_J1 at h
  refine Wk_cond_bool rfl (fun hc25 => ?_) (fun hc25 => ?_)
  · rw [if_pos hc25] at h
    refine Wk_seq (Wk_regionZ fun Z hZ => ?_)
    simp only [go_sem, seval, hc25]
    refine hZ _ (pp (Wk_ret (pp ?_)))
    cases h
    simp only [go_sem, seval]
    exact ⟨_, rfl, RokI.h, PureI.h⟩
  rw [if_neg (ne_true_of_eq_false hc25)] at h
  refine Wk_skip (pp ?_)
  unfold law30_StreamsTrim_J3 at h
  refine Wk_seq ?_
  obtain ⟨r43, hr26, h⟩ := Option.bind_eq_some_iff.1 h
  refine Wk_regionZ fun Z hZ => ?_
  simp only [go_sem, seval, hc25, hr26]
  refine hZ _ (pp (Wk_seq (Wk_seq (Wk_regionZ fun Z hZ => ?_))))
  simp only [go_sem, seval]
  refine hZ _ (pp (Wk_block (Wk_real fun hreal28 => ?_)))
  have hl27 := hreal28.cell 3 3 (by simp only [go_sem, seval]; rfl) rfl
  rw [List.length_map] at hl27
  refine Wk_range (fun (v39 : Nat) (b : Int) => ⟨tab 90 (updT (updT (updT (updT deadT 3 (.pref 3 [] 0 0)) 7 (.pref 7 [] 0 0)) 8 (.val (.int .i64 b))) 9 (.val (.int .i64 ((v39 : Nat) : Int)))), (upd (upd RZ 3 (.sl true none 4 (some 1) [[.val (.string s7), .val (.int .i64 v8), .sl false none 1 none (l9.map (rowI .i64)), .sl false none 4 none (l10.map Sub.row)]])) 7 (.sl true none 4 (some 1) [Topic.row r21]))⟩) r43 h ?_ ?_
  · refine weak_roots ?_ ?_ <;> repeat' first | exact xn | exact rn | refine xc ?_ ?_ | refine rc ?_ ?_ ?_ | rfl
  rintro v39 v38 hi29 h -
  rcases (drop_cases l10 v39 hi29) with ⟨x42, hi29', hx30, hd32⟩ | ⟨hi29', _, hd32⟩
  · rw [hd32] at h
    simp only [law30_StreamsTrim_L2] at h
    have hw31 := wrap_succ hi29' hl27
    refine Wk_seq (Wk_seq (Wk_regionZ fun Z hZ => ?_))
    simp only [go_sem, seval, hi29']
    refine hZ _ (pp ?_)
    try simp only [Int.ofNat_lt, hi8', hi29', if_true, if_false] at h
    refine Wk_cond_t rfl (Wk_skip (pp (Wk_seq (Wk_block ?_))))
    try rw [gx_nat hx30] at h
    refine Wk_regionZ fun Z hZ => ?_
    simp only [go_sem, seval, hx30, hi29']
    refine hZ _ (pp (Wk_regionZ fun Z hZ => ?_))
    simp only [go_sem, seval, hw31]
    refine hZ _ (pp ?_)
    first | refine ⟨(if x42.Cursor < v38 then x42.Cursor else v38), ?_, h⟩ | refine ⟨hi29', (if x42.Cursor < v38 then x42.Cursor else v38), ?_, h⟩
    refine weak_roots ?_ ?_ <;> repeat' first | exact xn | exact rn | refine xc ?_ ?_ | refine rc ?_ ?_ ?_ | rfl
  rw [hd32] at h
  simp only [law30_StreamsTrim_L2] at h
  refine Wk_seq (Wk_seq (Wk_regionZ fun Z hZ => ?_))
  simp only [go_sem, seval, hi29']
  refine hZ _ (pp ?_)
  try simp only [Int.ofNat_lt, hi8', hi29', if_true, if_false] at h
  refine Wk_cond_f rfl (Wk_exit (pp ?_))
  unfold law30_StreamsTrim_J2 at h
  refine Wk_seq (Wk_regionD fun Z hZ => ?_)
  simp only [go_sem, seval]
  refine RX_guard_dec rfl (fun hc33 => ?_) (fun hc33 => ?_)
  · have hc33d := decide_eq_true hc33
    rw [if_pos hc33] at h
    obtain ⟨r51, hr34, h⟩ := Option.bind_eq_some_iff.1 h
    obtain ⟨r52, hr35, h⟩ := Option.bind_eq_some_iff.1 h
    simp only [go_sem, seval, hc33d, hr34, hr35]
    repeat with_reducible refine and_bar (by kernel_rfl) ?_
    refine hZ _ (by kernel_rfl) (pp (Wk_ret (pp ?_)))
    cases h
    simp only [go_sem, seval]
    exact ⟨_, rfl, RokI.h, PureI.h⟩
  have hc33d := decide_eq_false hc33
  rw [if_neg hc33] at h
  simp only [go_sem, seval, hc33d]
  refine hZ _ (by kernel_rfl) (pp (Wk_ret (pp ?_)))
  cases h
  simp only [go_sem, seval]
  exact ⟨_, rfl, RokI.h, PureI.h⟩
def fs_law30_StreamsTrim (N : Nat) : FnS := ⟨[], true, fn1 (decL 3 actorgridlaw30_Act.dec) fun q0 => (law30_StreamsTrim N q0).map fun r => .val (.bool r), false⟩
attribute [go_sem] fs_law30_StreamsTrim
theorem fs_law30_StreamsTrim_ok (N : Nat) : FSOk Try.prog 5 (fs_law30_StreamsTrim N) := ok1 (fun q0 r h => by
  obtain ⟨r', hr, rfl⟩ := Option.map_eq_some_iff.1 h
  exact w_law30_StreamsTrim N q0 r' hr) (fun h => decL_le actorgridlaw30_Act.dec_le h)

end Go.Proofs.Ytpkfhjbgnpdgcaa
