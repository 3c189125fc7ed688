/- Walks: each function computes its model. No condition. -/
import Derived.Test.YthafflhaoplpjaaB
/- Each Go function computes its model: proofs laid by a program of ours. -/
set_option maxHeartbeats 40000000
set_option synthInstance.maxHeartbeats 2000000
set_option synthInstance.maxSize 4000
set_option linter.unusedSimpArgs false
set_option linter.unusedVariables false
set_option maxRecDepth 100000
namespace Go.Proofs.Ythafflhaoplpjaa
open Go Go.Proofs Go.Abs
theorem w_locks_validActor (N : Nat) (a0 : Ref) (r : Bool) (h : locks_validActor N a0 = some r) : Con Try.prog 23 [] true [.agg [.val (.string a0.Type_), .val (.string a0.Key)]] (.val (.bool r)) := by
  refine fun_ok4 (G := (glist [])) Try.func23 rfl (by decide) (by kernel_rfl) gn [] mix (Nat.le_of_ble_eq_true rfl) ?_
  simp only [Try.f23]
  unfold locks_validActor at h
  refine Wk_seq (Wk_regionZ fun Z hZ => ?_)
  simp only [go_sem, seval]
  refine hZ _ (pp (Wk_seq (Wk_regionZ fun Z hZ => ?_)))
  simp only [go_sem, seval]
  refine sw (RX_guard_dec rfl) (fun hc1 => ?_) (fun hc1 => ?_)
  · have hc1d := decide_eq_false hc1
    rw [if_neg hc1] at h
    simp only [go_sem, seval, hc1d]
    refine hZ _ (pp (Wk_ret (pp ?_)))
    cases h
    simp only [go_sem, seval]
    exact ⟨_, rfl, RokI.h, PureI.h⟩
  have hc1d := decide_eq_true hc1
  rw [if_pos hc1] at h
  simp only [go_sem, seval, hc1d]
  refine RX_guard_dec rfl (fun hc2 => ?_) (fun hc2 => ?_)
  · have hc2d := decide_eq_true hc2
    rw [if_pos hc2] at h
    simp only [go_sem, seval, hc2d]
    refine hZ _ (pp (Wk_ret (pp ?_)))
    cases h
    simp only [go_sem, seval]
    exact ⟨_, rfl, RokI.h, PureI.h⟩
  have hc2d := decide_eq_false hc2
  rw [if_neg hc2] at h
  simp only [go_sem, seval, hc2d]
  refine hZ _ (pp (Wk_ret (pp ?_)))
  cases h
  simp only [go_sem, seval]
  exact ⟨_, rfl, RokI.h, PureI.h⟩
def fs_locks_validActor (N : Nat) : FnS := ⟨[], true, fn1 Ref.decA fun q0 => (locks_validActor N q0).map fun r => .val (.bool r), false⟩
attribute [go_sem] fs_locks_validActor
theorem fs_locks_validActor_ok (N : Nat) : FSOk Try.prog 23 (fs_locks_validActor N) := ok1 (fun q0 r h => by
  obtain ⟨r', hr, rfl⟩ := Option.map_eq_some_iff.1 h
  exact w_locks_validActor N q0 r' hr) (Ref.decA_le)


theorem w_locks_validTxn (N : Nat) (a0 : Int) (r : Bool) (h : locks_validTxn N a0 = some r) : Con Try.prog 24 [] true [.val (.int .i64 a0)] (.val (.bool r)) := by
  refine fun_ok4 (G := (glist [])) Try.func24 rfl (by decide) (by kernel_rfl) gn [] mix (Nat.le_of_ble_eq_true rfl) ?_
  simp only [Try.f24]
  unfold locks_validTxn at h
  refine Wk_seq (Wk_regionZ fun Z hZ => ?_)
  simp only [go_sem, seval]
  refine hZ _ (pp (Wk_seq (Wk_regionZ fun Z hZ => ?_)))
  simp only [go_sem, seval]
  refine RX_guard_dec rfl (fun hc1 => ?_) (fun hc1 => ?_)
  · have hc1d := decide_eq_true hc1
    rw [if_pos hc1] at h
    simp only [go_sem, seval, hc1d]
    refine hZ _ (pp (Wk_ret (pp ?_)))
    cases h
    simp only [go_sem, seval]
    exact ⟨_, rfl, RokI.h, PureI.h⟩
  have hc1d := decide_eq_false hc1
  rw [if_neg hc1] at h
  simp only [go_sem, seval, hc1d]
  refine hZ _ (pp (Wk_ret (pp ?_)))
  cases h
  simp only [go_sem, seval]
  exact ⟨_, rfl, RokI.h, PureI.h⟩
def fs_locks_validTxn (N : Nat) : FnS := ⟨[], true, fn1 (decI .i64) fun q0 => (locks_validTxn N q0).map fun r => .val (.bool r), false⟩
attribute [go_sem] fs_locks_validTxn
theorem fs_locks_validTxn_ok (N : Nat) : FSOk Try.prog 24 (fs_locks_validTxn N) := ok1 (fun q0 r h => by
  obtain ⟨r', hr, rfl⟩ := Option.map_eq_some_iff.1 h
  exact w_locks_validTxn N q0 r' hr) (decI_le)


noncomputable def G_locks_validLock (N d f : Nat) : Option FnS := glist [(7, 23, fs_locks_validActor N), (12, 24, fs_locks_validTxn N)] d f
attribute [go_sem] G_locks_validLock
theorem w_locks_validLock (N : Nat) (a0 : Lock) (r : Bool) (h : locks_validLock N a0 = some r) : Con Try.prog 46 [] true [.agg (Lock.row a0)] (.val (.bool r)) := by
  refine fun_ok4 (G := (G_locks_validLock N)) Try.func46 rfl (by decide) (by kernel_rfl) (gc 7 (fs_locks_validActor_ok N) (gc 12 (fs_locks_validTxn_ok N) gn)) [] mix (Nat.le_of_ble_eq_true rfl) ?_
  simp only [Try.f46]
  unfold locks_validLock at h
  refine Wk_seq (Wk_regionZ fun Z hZ => ?_)
  simp only [go_sem, seval]
  refine hZ _ (pp (Wk_seq ?_))
  apply Wk_join1 (fun (c7 : Bool) => ⟨tab 52 (updT (updT deadT 1 (.pref 1 [] 0 0)) 20 (.val (.bool c7))), (upd RZ 1 (.sl true none 4 (some 1) [Lock.row a0]))⟩)
  · intro hJ1
    obtain ⟨r8, hr2, h⟩ := Option.bind_eq_some_iff.1 h
    refine Wk_regionZ fun Z hZ => ?_
    simp only [go_sem, seval, hr2]
    refine RX_guard_nbool rfl (fun hc3 => ?_) (fun hc3 => ?_)
    · rw [if_neg (ne_true_of_eq_false hc3)] at h
      simp only [go_sem, seval, hc3]
      refine hZ _ (pp (hJ1 _ true ?_ h))
      refine weak_roots ?_ ?_ <;> repeat' first | exact xn | exact rn | refine xc ?_ ?_ | refine rc ?_ ?_ ?_ | rfl
    rw [if_pos hc3] at h
    obtain ⟨r9, hr4, h⟩ := Option.bind_eq_some_iff.1 h
    simp only [go_sem, seval, hc3, hr4]
    refine RX_guard_nbool rfl (fun hc5 => ?_) (fun hc5 => ?_)
    · rw [if_neg (ne_true_of_eq_false hc5)] at h
      simp only [go_sem, seval, hc5]
      refine hZ _ (pp (hJ1 _ true ?_ h))
      refine weak_roots ?_ ?_ <;> repeat' first | exact xn | exact rn | refine xc ?_ ?_ | refine rc ?_ ?_ ?_ | rfl
    rw [if_pos hc5] at h
    simp only [go_sem, seval, hc5]
    refine hZ _ (pp (hJ1 _ (decide (32 < ((a0.Waiters.length : Nat) : Int))) ?_ h))
    refine weak_roots ?_ ?_ <;> repeat' first | exact xn | exact rn | refine xc ?_ ?_ | refine rc ?_ ?_ ?_ | rfl
  intro c7 h
  unfold locks_validLock_J1 at h
  refine Wk_cond_bool rfl (fun hc6 => ?_) (fun hc6 => ?_)
  · rw [if_pos hc6] at h
    refine Wk_seq (Wk_regionZ fun Z hZ => ?_)
    simp only [go_sem, seval, hc6]
    refine hZ _ (pp (Wk_ret (pp ?_)))
    cases h
    simp only [go_sem, seval]
    exact ⟨_, rfl, RokI.h, PureI.h⟩
  rw [if_neg (ne_true_of_eq_false hc6)] at h
  refine Wk_skip (pp ?_)
  unfold locks_validLock_J3 at h
  refine Wk_seq (Wk_seq (Wk_regionZ fun Z hZ => ?_))
  simp only [go_sem, seval, hc6]
  refine hZ _ (pp (Wk_block (Wk_real fun hreal8 => ?_)))
  have hl7 := hreal8.lenT 22 (by decide) (by simp only [go_sem, seval]; rfl)
  first | rw [List.length_map] at hl7 | rw [mxR_len] at hl7 | rw [← List.map_append, List.length_map] at hl7
  refine Wk_range (fun (v7 : Nat) (b : Unit) => ⟨tab 52 (updT (updT (updT (updT deadT 1 (.pref 1 [] 0 0)) 22 (.sl false none 1 none (a0.Waiters.map (rowI .i64)))) 23 (.val (.int .i64 ((a0.Waiters.length : Nat) : Int)))) 24 (.val (.int .i64 ((v7 : Nat) : Int)))), (upd RZ 1 (.sl true none 4 (some 1) [Lock.row a0]))⟩) () h ?_ ?_
  · refine weak_roots ?_ ?_ <;> repeat' first | exact xn | exact rn | refine xc ?_ ?_ | refine rc ?_ ?_ ?_ | rfl
  rintro v7 ⟨⟩ hi9 h -
  rcases (drop_cases a0.Waiters v7 hi9).symm with ⟨hi9', _, hd12⟩ | ⟨x10, hi9', hx10, hd12⟩
  · rw [hd12] at h
    simp only [locks_validLock_L1] at h
    refine Wk_seq (Wk_regionZ fun Z hZ => ?_)
    simp only [go_sem, seval, hi9']
    refine hZ _ (pp (Wk_seq ?_))
    try simp only [Int.ofNat_lt, hi9', if_true, if_false] at h
    refine Wk_cond_f rfl (Wk_exit (pp (Wk_seq (Wk_regionZ fun Z hZ => ?_))))
    simp only [go_sem, seval]
    refine hZ _ (pp (Wk_ret (pp ?_)))
    cases h
    simp only [go_sem, seval]
    exact ⟨_, rfl, RokI.h, PureI.h⟩
  rw [hd12] at h
  simp only [locks_validLock_L1] at h
  have hw11 := wrap_succ hi9' hl7
  refine Wk_seq (Wk_regionZ fun Z hZ => ?_)
  simp only [go_sem, seval, hi9']
  refine hZ _ (pp (Wk_seq ?_))
  try simp only [Int.ofNat_lt, hi9', if_true, if_false] at h
  refine Wk_cond_t rfl (Wk_skip (pp (Wk_seq (Wk_block (Wk_seq ?_)))))
  try rw [gx_nat hx10] at h
  refine Wk_regionZ fun Z hZ => ?_
  simp only [go_sem, seval, hx10, hi9']
  refine hZ _ (pp ?_)
  apply Wk_join1 (fun (c12 : Bool) => ⟨tab 52 (updT (updT (updT (updT (updT deadT 1 (.pref 1 [] 0 0)) 22 (.sl false none 1 none (a0.Waiters.map (rowI .i64)))) 23 (.val (.int .i64 ((a0.Waiters.length : Nat) : Int)))) 24 (.val (.int .i64 ((v7 : Nat) : Int)))) 50 (.val (.bool c12))), (upd RZ 1 (.sl true none 4 (some 1) [Lock.row a0]))⟩)
  · intro hJ13
    refine Wk_regionZ fun Z hZ => ?_
    simp only [go_sem, seval]
    refine RX_guard_dec rfl (fun hc14 => ?_) (fun hc14 => ?_)
    · have hc14d := decide_eq_true hc14
      rw [if_pos hc14] at h
      simp only [go_sem, seval, hc14d]
      refine hZ _ (pp (hJ13 _ true ?_ h))
      refine weak_roots ?_ ?_ <;> repeat' first | exact xn | exact rn | refine xc ?_ ?_ | refine rc ?_ ?_ ?_ | rfl
    have hc14d := decide_eq_false hc14
    rw [if_neg hc14] at h
    simp only [go_sem, seval, hc14d]
    refine RX_guard_dec rfl (fun hc15 => ?_) (fun hc15 => ?_)
    · have hc15d := decide_eq_true hc15
      rw [if_pos hc15] at h
      simp only [go_sem, seval, hc15d]
      refine hZ _ (pp (hJ13 _ true ?_ h))
      refine weak_roots ?_ ?_ <;> repeat' first | exact xn | exact rn | refine xc ?_ ?_ | refine rc ?_ ?_ ?_ | rfl
    have hc15d := decide_eq_false hc15
    rw [if_neg hc15] at h
    simp only [go_sem, seval, hc15d]
    refine RX_guard_dec rfl (fun hc16 => ?_) (fun hc16 => ?_)
    · have hc16d := decide_eq_true hc16
      rw [if_pos hc16] at h
      obtain ⟨x13, hb17, hx18, h⟩ := gx_some h
      simp only [go_sem, seval, hc16d, hb17, hx18]
      refine hZ _ (pp (hJ13 _ (decide (x10 ≤ x13)) ?_ h))
      refine weak_roots ?_ ?_ <;> repeat' first | exact xn | exact rn | refine xc ?_ ?_ | refine rc ?_ ?_ ?_ | rfl
    have hc16d := decide_eq_false hc16
    rw [if_neg hc16] at h
    simp only [go_sem, seval, hc16d]
    refine hZ _ (pp (hJ13 _ false ?_ h))
    refine weak_roots ?_ ?_ <;> repeat' first | exact xn | exact rn | refine xc ?_ ?_ | refine rc ?_ ?_ ?_ | rfl
  intro c12 h
  unfold locks_validLock_J2 at h
  refine Wk_cond_bool rfl (fun hc19 => ?_) (fun hc19 => ?_)
  · rw [if_pos hc19] at h
    refine Wk_seq (Wk_regionZ fun Z hZ => ?_)
    simp only [go_sem, seval, hc19]
    refine hZ _ (pp (Wk_ret (pp ?_)))
    cases h
    simp only [go_sem, seval]
    exact ⟨_, rfl, RokI.h, PureI.h⟩
  rw [if_neg (ne_true_of_eq_false hc19)] at h
  refine Wk_skip (pp (Wk_regionZ fun Z hZ => ?_))
  simp only [go_sem, seval, hw11, hc19]
  refine hZ _ (pp ?_)
  first | refine ⟨(), ?_, h⟩ | refine ⟨hi9', (), ?_, h⟩
  refine weak_roots ?_ ?_ <;> repeat' first | exact xn | exact rn | refine xc ?_ ?_ | refine rc ?_ ?_ ?_ | rfl
def fs_locks_validLock (N : Nat) : FnS := ⟨[], true, fn1 Lock.decA fun q0 => (locks_validLock N q0).map fun r => .val (.bool r), false⟩
attribute [go_sem] fs_locks_validLock
theorem fs_locks_validLock_ok (N : Nat) : FSOk Try.prog 46 (fs_locks_validLock N) := ok1 (fun q0 r h => by
  obtain ⟨r', hr, rfl⟩ := Option.map_eq_some_iff.1 h
  exact w_locks_validLock N q0 r' hr) (Lock.decA_le)


theorem w_cmp_isNaN_string (N : Nat) (a0 : ByteArray) (r : Bool) (h : cmp_isNaN_string N a0 = some r) : Con Try.prog 77 [] true [.val (.string a0)] (.val (.bool r)) := by
  refine fun_ok4 (G := (glist [])) Try.func77 rfl (by decide) (by kernel_rfl) gn [] mix (Nat.le_of_ble_eq_true rfl) ?_
  simp only [Try.f77]
  unfold cmp_isNaN_string at h
  refine Wk_seq (Wk_regionZ fun Z hZ => ?_)
  simp only [go_sem, seval]
  refine hZ _ (pp (Wk_seq (Wk_regionZ fun Z hZ => ?_)))
  simp only [go_sem, seval]
  refine hZ _ (pp (Wk_ret (pp ?_)))
  cases h
  simp only [go_sem, seval]
  exact ⟨_, rfl, RokI.h, PureI.h⟩
def fs_cmp_isNaN_string (N : Nat) : FnS := ⟨[], true, fn1 decS fun q0 => (cmp_isNaN_string N q0).map fun r => .val (.bool r), false⟩
attribute [go_sem] fs_cmp_isNaN_string
theorem fs_cmp_isNaN_string_ok (N : Nat) : FSOk Try.prog 77 (fs_cmp_isNaN_string N) := ok1 (fun q0 r h => by
  obtain ⟨r', hr, rfl⟩ := Option.map_eq_some_iff.1 h
  exact w_cmp_isNaN_string N q0 r' hr) (decS_le)


noncomputable def G_cmp_Compare_string (N d f : Nat) : Option FnS := glist [(8, 77, fs_cmp_isNaN_string N), (10, 77, fs_cmp_isNaN_string N)] d f
attribute [go_sem] G_cmp_Compare_string
theorem w_cmp_Compare_string (N : Nat) (a0 : ByteArray) (a1 : ByteArray) (r : Int) (h : cmp_Compare_string N a0 a1 = some r) : Con Try.prog 64 [] true [.val (.string a0), .val (.string a1)] (.val (.int .i64 r)) := by
  refine fun_ok4 (G := (G_cmp_Compare_string N)) Try.func64 rfl (by decide) (by kernel_rfl) (gc 8 (fs_cmp_isNaN_string_ok N) (gc 10 (fs_cmp_isNaN_string_ok N) gn)) [] mix (Nat.le_of_ble_eq_true rfl) ?_
  simp only [Try.f64]
  unfold cmp_Compare_string at h
  refine Wk_seq (Wk_regionZ fun Z hZ => ?_)
  simp only [go_sem, seval]
  refine hZ _ (pp (Wk_seq ?_))
  obtain ⟨r1, hr1, h⟩ := Option.bind_eq_some_iff.1 h
  refine Wk_regionZ fun Z hZ => ?_
  simp only [go_sem, seval, hr1]
  refine hZ _ (pp (Wk_seq ?_))
  obtain ⟨r2, hr2, h⟩ := Option.bind_eq_some_iff.1 h
  refine Wk_regionZ fun Z hZ => ?_
  simp only [go_sem, seval, hr2]
  refine hZ _ (pp (Wk_seq (Wk_seq (Wk_regionZ fun Z hZ => ?_))))
  simp only [go_sem, seval]
  refine hZ _ (pp (Wk_cond_bool rfl (fun hc3 => ?_) (fun hc3 => ?_)))
  · first | rw [if_pos hc3] at h | simp only [hc3, Bool.or_false, Bool.or_true, Bool.false_or, Bool.true_or, Bool.and_true, Bool.true_and, Bool.and_false, Bool.false_and, Bool.not_true, Bool.not_false, Bool.false_eq_true, if_true, if_false] at h
    refine Wk_seq (Wk_seq (Wk_regionZ fun Z hZ => ?_))
    simp only [go_sem, seval, hc3]
    refine hZ _ (pp (Wk_cond_bool rfl (fun hc4 => ?_) (fun hc4 => ?_)))
    · first | rw [if_pos hc4] at h | simp only [hc4, hc3, Bool.or_false, Bool.or_true, Bool.false_or, Bool.true_or, Bool.and_true, Bool.true_and, Bool.and_false, Bool.false_and, Bool.not_true, Bool.not_false, Bool.false_eq_true, if_true, if_false] at h
      refine Wk_seq (Wk_regionZ fun Z hZ => ?_)
      simp only [go_sem, seval, hc4]
      refine hZ _ (pp (Wk_ret (pp ?_)))
      cases h
      simp only [go_sem, seval]
      exact ⟨_, rfl, RokI.h, PureI.h⟩
    first | rw [if_neg (ne_true_of_eq_false hc4)] at h | simp only [hc4, hc3, Bool.or_false, Bool.or_true, Bool.false_or, Bool.true_or, Bool.and_true, Bool.true_and, Bool.and_false, Bool.false_and, Bool.not_true, Bool.not_false, Bool.false_eq_true, if_true, if_false] at h
    refine Wk_skip (pp (Wk_seq (Wk_regionZ fun Z hZ => ?_)))
    simp only [go_sem, seval, hc4]
    refine hZ _ (pp (Wk_ret (pp ?_)))
    cases h
    simp only [go_sem, seval]
    exact ⟨_, rfl, RokI.h, PureI.h⟩
  first | rw [if_neg (ne_true_of_eq_false hc3)] at h | simp only [hc3, Bool.or_false, Bool.or_true, Bool.false_or, Bool.true_or, Bool.and_true, Bool.true_and, Bool.and_false, Bool.false_and, Bool.not_true, Bool.not_false, Bool.false_eq_true, if_true, if_false] at h
  refine Wk_skip (pp (Wk_seq (Wk_seq (Wk_regionZ fun Z hZ => ?_))))
  simp only [go_sem, seval, hc3]
  refine hZ _ (pp (Wk_cond_bool rfl (fun hc5 => ?_) (fun hc5 => ?_)))
  · first | rw [if_pos hc5] at h | simp only [hc5, hc3, Bool.or_false, Bool.or_true, Bool.false_or, Bool.true_or, Bool.and_true, Bool.true_and, Bool.and_false, Bool.false_and, Bool.not_true, Bool.not_false, Bool.false_eq_true, if_true, if_false] at h
    refine Wk_seq (Wk_regionZ fun Z hZ => ?_)
    simp only [go_sem, seval, hc5]
    refine hZ _ (pp (Wk_ret (pp ?_)))
    cases h
    simp only [go_sem, seval]
    exact ⟨_, rfl, RokI.h, PureI.h⟩
  first | rw [if_neg (ne_true_of_eq_false hc5)] at h | simp only [hc5, hc3, Bool.or_false, Bool.or_true, Bool.false_or, Bool.true_or, Bool.and_true, Bool.true_and, Bool.and_false, Bool.false_and, Bool.not_true, Bool.not_false, Bool.false_eq_true, if_true, if_false] at h
  refine Wk_skip (pp (Wk_seq (Wk_seq (Wk_regionZ fun Z hZ => ?_))))
  simp only [go_sem, seval, hc5]
  refine hZ _ (pp (Wk_cond_bool rfl (fun hc6 => ?_) (fun hc6 => ?_)))
  · first | rw [if_pos hc6] at h | simp only [hc6, hc3, hc5, Bool.or_false, Bool.or_true, Bool.false_or, Bool.true_or, Bool.and_true, Bool.true_and, Bool.and_false, Bool.false_and, Bool.not_true, Bool.not_false, Bool.false_eq_true, if_true, if_false] at h
    refine Wk_seq (Wk_regionZ fun Z hZ => ?_)
    simp only [go_sem, seval, hc6]
    refine hZ _ (pp (Wk_ret (pp ?_)))
    cases h
    simp only [go_sem, seval]
    exact ⟨_, rfl, RokI.h, PureI.h⟩
  first | rw [if_neg (ne_true_of_eq_false hc6)] at h | simp only [hc6, hc3, hc5, Bool.or_false, Bool.or_true, Bool.false_or, Bool.true_or, Bool.and_true, Bool.true_and, Bool.and_false, Bool.false_and, Bool.not_true, Bool.not_false, Bool.false_eq_true, if_true, if_false] at h
  refine Wk_skip (pp (Wk_seq (Wk_seq (Wk_regionZ fun Z hZ => ?_))))
  simp only [go_sem, seval, hc6]
  refine hZ _ (pp (Wk_cond_nbool rfl (fun hc7 => ?_) (fun hc7 => ?_)))
  · first | rw [if_neg (ne_true_of_eq_false hc7)] at h | simp only [hc7, hc6, Bool.or_false, Bool.false_eq_true, if_false] at h
    refine Wk_seq (Wk_regionZ fun Z hZ => ?_)
    simp only [go_sem, seval, hc7]
    refine hZ _ (pp (Wk_ret (pp ?_)))
    cases h
    simp only [go_sem, seval]
    exact ⟨_, rfl, RokI.h, PureI.h⟩
  first | rw [if_pos hc7] at h | simp only [hc7, hc6, Bool.or_true, if_true] at h
  refine Wk_skip (pp (Wk_seq (Wk_regionZ fun Z hZ => ?_)))
  simp only [go_sem, seval, hc7]
  refine hZ _ (pp (Wk_ret (pp ?_)))
  cases h
  simp only [go_sem, seval]
  exact ⟨_, rfl, RokI.h, PureI.h⟩
def fs_cmp_Compare_string (N : Nat) : FnS := ⟨[], true, fn2 decS decS fun q0 q1 => (cmp_Compare_string N q0 q1).map fun r => .val (.int .i64 r), false⟩
attribute [go_sem] fs_cmp_Compare_string
theorem fs_cmp_Compare_string_ok (N : Nat) : FSOk Try.prog 64 (fs_cmp_Compare_string N) := ok2 (fun q0 q1 r h => by
  obtain ⟨r', hr, rfl⟩ := Option.map_eq_some_iff.1 h
  exact w_cmp_Compare_string N q0 q1 r' hr) (decS_le) (decS_le)


theorem w_cmp_Or_int (N : Nat) (a0 : (List Int)) (r : Int) (h : cmp_Or_int N a0 = some r) : Con Try.prog 43 [] true [.sl false none 1 none (a0.map (rowI .i64))] (.val (.int .i64 r)) := by
  refine fun_ok4 (G := (glist [])) Try.func43 rfl (by decide) (by kernel_rfl) gn [] mix (Nat.le_of_ble_eq_true rfl) ?_
  simp only [Try.f43]
  unfold cmp_Or_int at h
  refine Wk_seq (Wk_regionZ fun Z hZ => ?_)
  simp only [go_sem, seval]
  refine hZ _ (pp (Wk_seq (Wk_regionZ fun Z hZ => ?_)))
  simp only [go_sem, seval]
  refine hZ _ (pp (Wk_seq (Wk_seq (Wk_regionZ fun Z hZ => ?_))))
  simp only [go_sem, seval]
  refine hZ _ (pp (Wk_block (Wk_real fun hreal2 => ?_)))
  have hl1 := hreal2.lenT 0 (by decide) (by simp only [go_sem, seval]; rfl)
  first | rw [List.length_map] at hl1 | rw [mxR_len] at hl1 | rw [← List.map_append, List.length_map] at hl1
  refine Wk_range (fun (v2 : Nat) (b : Unit) => ⟨tab 18 (updT (updT (updT (updT deadT 3 (.val (.int .i64 0))) 6 (.sl false none 1 none (a0.map (rowI .i64)))) 7 (.val (.int .i64 ((a0.length : Nat) : Int)))) 8 (.val (.int .i64 ((v2 : Nat) : Int)))), RZ⟩) () h ?_ ?_
  · refine weak_roots ?_ ?_ <;> repeat' first | exact xn | exact rn | refine xc ?_ ?_ | refine rc ?_ ?_ ?_ | rfl
  rintro v2 ⟨⟩ hi3 h -
  rcases (drop_cases a0 v2 hi3).symm with ⟨hi3', _, hd6⟩ | ⟨x5, hi3', hx4, hd6⟩
  · rw [hd6] at h
    simp only [cmp_Or_int_L1] at h
    refine Wk_seq (Wk_regionZ fun Z hZ => ?_)
    simp only [go_sem, seval, hi3']
    refine hZ _ (pp (Wk_seq ?_))
    try simp only [Int.ofNat_lt, hi3', if_true, if_false] at h
    refine Wk_cond_f rfl (Wk_exit (pp (Wk_seq (Wk_regionZ fun Z hZ => ?_))))
    simp only [go_sem, seval]
    refine hZ _ (pp (Wk_ret (pp ?_)))
    cases h
    simp only [go_sem, seval]
    exact ⟨_, rfl, RokI.h, PureI.h⟩
  rw [hd6] at h
  simp only [cmp_Or_int_L1] at h
  have hw5 := wrap_succ hi3' hl1
  refine Wk_seq (Wk_regionZ fun Z hZ => ?_)
  simp only [go_sem, seval, hi3']
  refine hZ _ (pp (Wk_seq ?_))
  try simp only [Int.ofNat_lt, hi3', if_true, if_false] at h
  refine Wk_cond_t rfl (Wk_skip (pp (Wk_seq (Wk_block (Wk_seq ?_)))))
  try rw [gx_nat hx4] at h
  refine Wk_regionZ fun Z hZ => ?_
  simp only [go_sem, seval, hx4, hi3']
  refine hZ _ (pp (Wk_seq (Wk_regionZ fun Z hZ => ?_)))
  simp only [go_sem, seval]
  refine hZ _ (pp (Wk_cond_ndec rfl (fun hc7 => ?_) (fun hc7 => ?_)))
  · have hc7d := decide_eq_false hc7
    rw [if_neg hc7] at h
    refine Wk_seq (Wk_regionZ fun Z hZ => ?_)
    simp only [go_sem, seval, hc7d]
    refine hZ _ (pp (Wk_ret (pp ?_)))
    cases h
    simp only [go_sem, seval]
    exact ⟨_, rfl, RokI.h, PureI.h⟩
  have hc7d := decide_eq_true hc7
  rw [if_pos hc7] at h
  refine Wk_skip (pp (Wk_regionZ fun Z hZ => ?_))
  simp only [go_sem, seval, hw5, hc7d]
  refine hZ _ (pp ?_)
  first | refine ⟨(), ?_, h⟩ | refine ⟨hi3', (), ?_, h⟩
  refine weak_roots ?_ ?_ <;> repeat' first | exact xn | exact rn | refine xc ?_ ?_ | refine rc ?_ ?_ ?_ | rfl
def fs_cmp_Or_int (N : Nat) : FnS := ⟨[], true, fn1 (decL 1 (dec1 (decI .i64))) fun q0 => (cmp_Or_int N q0).map fun r => .val (.int .i64 r), false⟩
attribute [go_sem] fs_cmp_Or_int
theorem fs_cmp_Or_int_ok (N : Nat) : FSOk Try.prog 43 (fs_cmp_Or_int N) := ok1 (fun q0 r h => by
  obtain ⟨r', hr, rfl⟩ := Option.map_eq_some_iff.1 h
  exact w_cmp_Or_int N q0 r' hr) (fun h => decL_le (decI1_le .i64) h)


noncomputable def G_locks_compare (N d f : Nat) : Option FnS := glist [(9, 64, fs_cmp_Compare_string N), (14, 64, fs_cmp_Compare_string N), (16, 43, fs_cmp_Or_int N)] d f
attribute [go_sem] G_locks_compare
theorem w_locks_compare (N : Nat) (a0 : Ref) (a1 : Ref) (r : Int) (h : locks_compare N a0 a1 = some r) : Con Try.prog 47 [] true [.agg [.val (.string a0.Type_), .val (.string a0.Key)], .agg [.val (.string a1.Type_), .val (.string a1.Key)]] (.val (.int .i64 r)) := by
  refine fun_ok4 (G := (G_locks_compare N)) Try.func47 rfl (by decide) (by kernel_rfl) (gc 9 (fs_cmp_Compare_string_ok N) (gc 14 (fs_cmp_Compare_string_ok N) (gc 16 (fs_cmp_Or_int_ok N) gn))) [] mix (Nat.le_of_ble_eq_true rfl) ?_
  simp only [Try.f47]
  unfold locks_compare at h
  refine Wk_seq (Wk_regionZ fun Z hZ => ?_)
  simp only [go_sem, seval]
  refine hZ _ (pp (Wk_seq ?_))
  obtain ⟨r1, hr1, h⟩ := Option.bind_eq_some_iff.1 h
  obtain ⟨r2, hr2, h⟩ := Option.bind_eq_some_iff.1 h
  obtain ⟨r3, hr3, h⟩ := Option.bind_eq_some_iff.1 h
  refine Wk_regionD fun Z hZ => ?_
  simp only [go_sem, seval, hr1, hr2, hr3]
  repeat with_reducible refine and_bar (by kernel_rfl) ?_
  refine hZ _ (by kernel_rfl) (pp (Wk_ret (pp ?_)))
  cases h
  simp only [go_sem, seval]
  exact ⟨_, rfl, RokI.h, PureI.h⟩
def fs_locks_compare (N : Nat) : FnS := ⟨[], true, fn2 Ref.decA Ref.decA fun q0 q1 => (locks_compare N q0 q1).map fun r => .val (.int .i64 r), false⟩
attribute [go_sem] fs_locks_compare
theorem fs_locks_compare_ok (N : Nat) : FSOk Try.prog 47 (fs_locks_compare N) := ok2 (fun q0 q1 r h => by
  obtain ⟨r', hr, rfl⟩ := Option.map_eq_some_iff.1 h
  exact w_locks_compare N q0 q1 r' hr) (Ref.decA_le) (Ref.decA_le)


noncomputable def G_locks_Valid (N d f : Nat) : Option FnS := glist [(16, 46, fs_locks_validLock N), (30, 47, fs_locks_compare N)] d f
attribute [go_sem] G_locks_Valid
theorem w_locks_Valid (N : Nat) (a0 : (List Lock)) (r : Bool) (h : locks_Valid N a0 = some r) : Con Try.prog 21 [] true [.sl false none 4 none (a0.map Lock.row)] (.val (.bool r)) := by
  refine fun_ok4 (G := (G_locks_Valid N)) Try.func21 rfl (by decide) (by kernel_rfl) (gc 16 (fs_locks_validLock_ok N) (gc 30 (fs_locks_compare_ok N) gn)) [] mix (Nat.le_of_ble_eq_true rfl) ?_
  simp only [Try.f21]
  unfold locks_Valid at h
  refine Wk_seq (Wk_regionZ fun Z hZ => ?_)
  simp only [go_sem, seval]
  refine hZ _ (pp (Wk_seq (Wk_seq (Wk_regionZ fun Z hZ => ?_))))
  simp only [go_sem, seval]
  refine hZ _ (pp (Wk_cond_dec rfl (fun hc1 => ?_) (fun hc1 => ?_)))
  · have hc1d := decide_eq_true hc1
    rw [if_pos hc1] at h
    refine Wk_seq (Wk_regionZ fun Z hZ => ?_)
    simp only [go_sem, seval, hc1d]
    refine hZ _ (pp (Wk_ret (pp ?_)))
    cases h
    simp only [go_sem, seval]
    exact ⟨_, rfl, RokI.h, PureI.h⟩
  have hc1d := decide_eq_false hc1
  rw [if_neg hc1] at h
  refine Wk_skip (pp (Wk_seq (Wk_seq (Wk_regionZ fun Z hZ => ?_))))
  simp only [go_sem, seval, hc1d]
  refine hZ _ (pp (Wk_block (Wk_real fun hreal3 => ?_)))
  have hl2 := hreal3.lenT 0 (by decide) (by simp only [go_sem, seval]; rfl)
  first | rw [List.length_map] at hl2 | rw [mxR_len] at hl2 | rw [← List.map_append, List.length_map] at hl2
  refine Wk_range (fun (v3 : Nat) (b : Unit) => ⟨tab 35 (updT (updT (updT (updT deadT 0 (.sl false none 4 none (a0.map Lock.row))) 8 (.sl false none 4 none (a0.map Lock.row))) 9 (.val (.int .i64 ((a0.length : Nat) : Int)))) 10 (.val (.int .i64 ((v3 : Nat) : Int)))), RZ⟩) () h ?_ ?_
  · refine weak_roots ?_ ?_ <;> repeat' first | exact xn | exact rn | refine xc ?_ ?_ | refine rc ?_ ?_ ?_ | rfl
  rintro v3 ⟨⟩ hi4 h -
  rcases (drop_cases a0 v3 hi4).symm with ⟨hi4', _, hd7⟩ | ⟨x6, hi4', hx5, hd7⟩
  · rw [hd7] at h
    simp only [locks_Valid_L1] at h
    refine Wk_seq (Wk_regionZ fun Z hZ => ?_)
    simp only [go_sem, seval, hi4']
    refine hZ _ (pp (Wk_seq ?_))
    try simp only [Int.ofNat_lt, hi4', if_true, if_false] at h
    refine Wk_cond_f rfl (Wk_exit (pp (Wk_seq (Wk_regionZ fun Z hZ => ?_))))
    simp only [go_sem, seval]
    refine hZ _ (pp (Wk_ret (pp ?_)))
    cases h
    simp only [go_sem, seval]
    exact ⟨_, rfl, RokI.h, PureI.h⟩
  rw [hd7] at h
  simp only [locks_Valid_L1] at h
  have hw6 := wrap_succ hi4' hl2
  refine Wk_seq (Wk_regionZ fun Z hZ => ?_)
  simp only [go_sem, seval, hi4']
  refine hZ _ (pp (Wk_seq ?_))
  try simp only [Int.ofNat_lt, hi4', if_true, if_false] at h
  refine Wk_cond_t rfl (Wk_skip (pp (Wk_seq (Wk_block (Wk_seq ?_)))))
  try rw [gx_nat hx5] at h
  refine Wk_regionZ fun Z hZ => ?_
  simp only [go_sem, seval, hx5, hi4']
  refine hZ _ (pp ?_)
  apply Wk_join1 (fun (c4 : Bool) => ⟨tab 35 (updT (updT (updT (updT (updT deadT 0 (.sl false none 4 none (a0.map Lock.row))) 8 (.sl false none 4 none (a0.map Lock.row))) 9 (.val (.int .i64 ((a0.length : Nat) : Int)))) 10 (.val (.int .i64 ((v3 : Nat) : Int)))) 33 (.val (.bool c4))), RZ⟩)
  · intro hJ8
    obtain ⟨r5, hr9, h⟩ := Option.bind_eq_some_iff.1 h
    refine Wk_regionD fun Z hZ => ?_
    simp only [go_sem, seval, hr9]
    repeat with_reducible refine and_bar (by kernel_rfl) ?_
    refine RX_guard_nbool rfl (fun hc10 => ?_) (fun hc10 => ?_)
    · rw [if_neg (ne_true_of_eq_false hc10)] at h
      simp only [go_sem, seval, hc10]
      refine hZ _ (by kernel_rfl) (pp (hJ8 _ true ?_ h))
      refine weak_roots ?_ ?_ <;> repeat' first | exact xn | exact rn | refine xc ?_ ?_ | refine rc ?_ ?_ ?_ | rfl
    rw [if_pos hc10] at h
    simp only [go_sem, seval, hc10]
    refine RX_guard_dec rfl (fun hc11 => ?_) (fun hc11 => ?_)
    · have hc11d := decide_eq_true hc11
      rw [if_pos hc11] at h
      obtain ⟨x7, hb12, hx13, h⟩ := gx_some h
      obtain ⟨r8, hr14, h⟩ := Option.bind_eq_some_iff.1 h
      simp only [go_sem, seval, hc11d, hb12, hx13, hr14]
      repeat with_reducible refine and_bar (by kernel_rfl) ?_
      refine hZ _ (by kernel_rfl) (pp (hJ8 _ (decide (0 ≤ r8)) ?_ h))
      refine weak_roots ?_ ?_ <;> repeat' first | exact xn | exact rn | refine xc ?_ ?_ | refine rc ?_ ?_ ?_ | rfl
    have hc11d := decide_eq_false hc11
    rw [if_neg hc11] at h
    simp only [go_sem, seval, hc11d]
    refine hZ _ (by kernel_rfl) (pp (hJ8 _ false ?_ h))
    refine weak_roots ?_ ?_ <;> repeat' first | exact xn | exact rn | refine xc ?_ ?_ | refine rc ?_ ?_ ?_ | rfl
  intro c4 h
  unfold locks_Valid_J1 at h
  refine Wk_cond_bool rfl (fun hc15 => ?_) (fun hc15 => ?_)
  · rw [if_pos hc15] at h
    refine Wk_seq (Wk_regionZ fun Z hZ => ?_)
    simp only [go_sem, seval, hc15]
    refine hZ _ (pp (Wk_ret (pp ?_)))
    cases h
    simp only [go_sem, seval]
    exact ⟨_, rfl, RokI.h, PureI.h⟩
  rw [if_neg (ne_true_of_eq_false hc15)] at h
  refine Wk_skip (pp (Wk_regionZ fun Z hZ => ?_))
  simp only [go_sem, seval, hw6, hc15]
  refine hZ _ (pp ?_)
  first | refine ⟨(), ?_, h⟩ | refine ⟨hi4', (), ?_, h⟩
  refine weak_roots ?_ ?_ <;> repeat' first | exact xn | exact rn | refine xc ?_ ?_ | refine rc ?_ ?_ ?_ | rfl
def fs_locks_Valid (N : Nat) : FnS := ⟨[], true, fn1 (decL 4 Lock.dec) fun q0 => (locks_Valid N q0).map fun r => .val (.bool r), false⟩
attribute [go_sem] fs_locks_Valid
theorem fs_locks_Valid_ok (N : Nat) : FSOk Try.prog 21 (fs_locks_Valid N) := ok1 (fun q0 r h => by
  obtain ⟨r', hr, rfl⟩ := Option.map_eq_some_iff.1 h
  exact w_locks_Valid N q0 r' hr) (fun h => decL_le Lock.dec_le h)


noncomputable def G_locks_find_1 (N d f : Nat) : Option FnS := glist [(8, 47, fs_locks_compare N)] d f
attribute [go_sem] G_locks_find_1
theorem w_locks_find_1 (N : Nat) (a0 : Lock) (a1 : Ref) (r : Int) (h : locks_find_1 N a0 a1 = some r) : Con Try.prog 49 [] true [.agg (Lock.row a0), .agg [.val (.string a1.Type_), .val (.string a1.Key)]] (.val (.int .i64 r)) := by
  refine fun_ok4 (G := (G_locks_find_1 N)) Try.func49 rfl (by decide) (by kernel_rfl) (gc 8 (fs_locks_compare_ok N) gn) [] mix (Nat.le_of_ble_eq_true rfl) ?_
  simp only [Try.f49]
  unfold locks_find_1 at h
  refine Wk_seq (Wk_regionZ fun Z hZ => ?_)
  simp only [go_sem, seval]
  refine hZ _ (pp (Wk_seq ?_))
  obtain ⟨r1, hr1, h⟩ := Option.bind_eq_some_iff.1 h
  refine Wk_regionZ fun Z hZ => ?_
  simp only [go_sem, seval, hr1]
  refine hZ _ (pp (Wk_ret (pp ?_)))
  cases h
  simp only [go_sem, seval]
  exact ⟨_, rfl, RokI.h, PureI.h⟩
def fs_locks_find_1 (N : Nat) : FnS := ⟨[], true, fn2 Lock.decA Ref.decA fun q0 q1 => (locks_find_1 N q0 q1).map fun r => .val (.int .i64 r), false⟩
attribute [go_sem] fs_locks_find_1
theorem fs_locks_find_1_ok (N : Nat) : FSOk Try.prog 49 (fs_locks_find_1 N) := ok2 (fun q0 q1 r h => by
  obtain ⟨r', hr, rfl⟩ := Option.map_eq_some_iff.1 h
  exact w_locks_find_1 N q0 q1 r' hr) (Lock.decA_le) (Ref.decA_le)


noncomputable def G_slices_BinarySearchFunc_Ref_locks_find_1 (N d f : Nat) : Option FnS := glist [(30, 49, fs_locks_find_1 N), (46, 49, fs_locks_find_1 N)] d f
attribute [go_sem] G_slices_BinarySearchFunc_Ref_locks_find_1
theorem w_slices_BinarySearchFunc_Ref_locks_find_1 (N : Nat) (a0 : (List Lock)) (a1 : Ref) (r : Int × Bool) (h : slices_BinarySearchFunc_Ref_locks_find_1 N a0 a1 = some r) : Con Try.prog 48 [] true [.sl false none 4 none (a0.map Lock.row), .agg [.val (.string a1.Type_), .val (.string a1.Key)], .clo 49 []] (.tup [.val (.int .i64 r.1), .val (.bool r.2)]) := by
  refine fun_ok4 (G := (G_slices_BinarySearchFunc_Ref_locks_find_1 N)) Try.func48 rfl (by decide) (by kernel_rfl) (gc 30 (fs_locks_find_1_ok N) (gc 46 (fs_locks_find_1_ok N) gn)) [] mix (Nat.le_of_ble_eq_true rfl) ?_
  simp only [Try.f48]
  unfold slices_BinarySearchFunc_Ref_locks_find_1 at h
  refine Wk_seq (Wk_regionZ fun Z hZ => ?_)
  simp only [go_sem, seval]
  refine hZ _ (pp (Wk_seq (Wk_regionZ fun Z hZ => ?_)))
  simp only [go_sem, seval]
  refine hZ _ (pp (Wk_seq (Wk_regionZ fun Z hZ => ?_)))
  simp only [go_sem, seval]
  refine hZ _ (pp (Wk_seq (Wk_block (Wk_fuel (fun (b : Int × Int) => ⟨tab 49 (updT (updT (updT (updT (updT (updT deadT 0 (.sl false none 4 none (a0.map Lock.row))) 2 (.clo 49 [])) 4 (.pref 4 [] 0 0)) 8 (.val (.int .i64 ((a0.length : Nat) : Int)))) 9 (.val (.int .i64 b.1))) 10 (.val (.int .i64 b.2))), (upd RZ 4 (.sl true none 2 (some 1) [[.val (.string a1.Type_), .val (.string a1.Key)]]))⟩) (0, ((a0.length : Nat) : Int)) h ?_ ?_))))
  · refine weak_roots ?_ ?_ <;> repeat' first | exact xn | exact rn | refine xc ?_ ?_ | refine rc ?_ ?_ ?_ | rfl
  rintro n ⟨v2, v3⟩ h -
  cases n with
  | zero => simp [slices_BinarySearchFunc_Ref_locks_find_1_L1] at h
  | succ n =>
  simp only [slices_BinarySearchFunc_Ref_locks_find_1_L1] at h
  refine Wk_seq (Wk_seq (Wk_regionZ fun Z hZ => ?_))
  simp only [go_sem, seval]
  refine hZ _ (pp (sw (Wk_cond_dec rfl) (fun hc1 => ?_) (fun hc1 => ?_)))
  · have hc1d := decide_eq_false hc1
    rw [if_neg hc1] at h
    refine Wk_exit (pp ?_)
    unfold slices_BinarySearchFunc_Ref_locks_find_1_J1 at h
    refine Wk_seq (Wk_regionD fun Z hZ => ?_)
    simp only [go_sem, seval, hc1d]
    refine RX_guard_dec rfl (fun hc6 => ?_) (fun hc6 => ?_)
    · have hc6d := decide_eq_true hc6
      rw [if_pos hc6] at h
      obtain ⟨x11, hb7, hx8, h⟩ := gx_some h
      obtain ⟨r12, hr9, h⟩ := Option.bind_eq_some_iff.1 h
      simp only [go_sem, seval, hb7, hx8, hr9]
      repeat with_reducible refine and_bar (by kernel_rfl) ?_
      refine hZ _ (by kernel_rfl) (pp (Wk_ret (pp ?_)))
      cases h
      simp only [go_sem, seval]
      exact ⟨_, rfl, RokI.h, PureI.h⟩
    have hc6d := decide_eq_false hc6
    rw [if_neg hc6] at h
    simp only [go_sem, seval, hc6d]
    refine hZ _ (by kernel_rfl) (pp (Wk_ret (pp ?_)))
    cases h
    simp only [go_sem, seval]
    exact ⟨_, rfl, RokI.h, PureI.h⟩
  have hc1d := decide_eq_true hc1
  rw [if_pos hc1] at h
  refine Wk_skip (pp (Wk_block (Wk_seq (Wk_regionZ fun Z hZ => ?_))))
  simp only [go_sem, seval, hc1d]
  refine hZ _ (pp (Wk_seq ?_))
  obtain ⟨x9, hb2, hx3, h⟩ := gx_some h
  obtain ⟨r10, hr4, h⟩ := Option.bind_eq_some_iff.1 h
  refine Wk_regionD fun Z hZ => ?_
  simp only [go_sem, seval, hb2, hx3, hr4]
  repeat with_reducible refine and_bar (by kernel_rfl) ?_
  refine hZ _ (by kernel_rfl) (pp (Wk_cond_dec rfl (fun hc5 => ?_) (fun hc5 => ?_)))
  · have hc5d := decide_eq_true hc5
    rw [if_pos hc5] at h
    refine Wk_regionZ fun Z hZ => ?_
    simp only [go_sem, seval, hc5d]
    refine hZ _ (pp (⟨_, Nat.lt_succ_self _, (IntKind.i64.wrap ((IntKind.i64.wrap (shrI .u64 (IntKind.u64.wrap (IntKind.i64.wrap (v2 + v3))) 1)) + 1), v3), ?_, h⟩))
    refine weak_roots ?_ ?_ <;> repeat' first | exact xn | exact rn | refine xc ?_ ?_ | refine rc ?_ ?_ ?_ | rfl
  have hc5d := decide_eq_false hc5
  rw [if_neg hc5] at h
  refine Wk_regionZ fun Z hZ => ?_
  simp only [go_sem, seval, hc5d]
  refine hZ _ (pp (⟨_, Nat.lt_succ_self _, (v2, IntKind.i64.wrap (shrI .u64 (IntKind.u64.wrap (IntKind.i64.wrap (v2 + v3))) 1)), ?_, h⟩))
  refine weak_roots ?_ ?_ <;> repeat' first | exact xn | exact rn | refine xc ?_ ?_ | refine rc ?_ ?_ ?_ | rfl
def fs_slices_BinarySearchFunc_Ref_locks_find_1 (N : Nat) : FnS := { own := [], pure := true, fn := fun cs => match cs with
  | [c0, c1, .clo 49 []] => ((decL 4 Lock.dec) c0).bind fun qc0 => (Ref.decA c1).bind fun qc1 => (slices_BinarySearchFunc_Ref_locks_find_1 N qc0 qc1).map fun r => .tup [.val (.int .i64 r.1), .val (.bool r.2)]
  | _ => none }
attribute [go_sem] fs_slices_BinarySearchFunc_Ref_locks_find_1
theorem fs_slices_BinarySearchFunc_Ref_locks_find_1_ok (N : Nat) : FSOk Try.prog 48 (fs_slices_BinarySearchFunc_Ref_locks_find_1 N) := by
  refine ⟨fun cs r h => ?_, fun h => by cases h⟩
  simp only [fs_slices_BinarySearchFunc_Ref_locks_find_1] at h
  split at h
  · simp only [Option.bind_eq_some_iff, Option.map_eq_some_iff] at h
    obtain ⟨q0, h0, q1, h1, r', hr, rfl⟩ := h
    exact ((w_slices_BinarySearchFunc_Ref_locks_find_1 N q0 q1 r' hr).args (LeL.cons (decL_le Lock.dec_le h0) (LeL.cons (Ref.decA_le h1) (LeL.cons (Le.clo (LeL.nil)) (LeL.nil)))))
  · cases h


noncomputable def G_locks_find (N d f : Nat) : Option FnS := glist [(8, 48, fs_slices_BinarySearchFunc_Ref_locks_find_1 N)] d f
attribute [go_sem] G_locks_find
theorem w_locks_find (N : Nat) (a0 : (List Lock)) (a1 : Ref) (r : Int × Bool) (h : locks_find N a0 a1 = some r) : Con Try.prog 25 [] true [.sl false none 4 none (a0.map Lock.row), .agg [.val (.string a1.Type_), .val (.string a1.Key)]] (.tup [.val (.int .i64 r.1), .val (.bool r.2)]) := by
  refine fun_ok4 (G := (G_locks_find N)) Try.func25 rfl (by decide) (by kernel_rfl) (gc 8 (fs_slices_BinarySearchFunc_Ref_locks_find_1_ok N) gn) [] mix (Nat.le_of_ble_eq_true rfl) ?_
  simp only [Try.f25]
  unfold locks_find at h
  refine Wk_seq (Wk_regionZ fun Z hZ => ?_)
  simp only [go_sem, seval]
  refine hZ _ (pp (Wk_seq ?_))
  obtain ⟨r1, hr1, h⟩ := Option.bind_eq_some_iff.1 h
  refine Wk_regionZ fun Z hZ => ?_
  simp only [go_sem, seval, hr1]
  refine hZ _ (pp (Wk_ret (pp ?_)))
  cases h
  simp only [go_sem, seval]
  exact ⟨_, rfl, RokI.h, PureI.h⟩
def fs_locks_find (N : Nat) : FnS := ⟨[], true, fn2 (decL 4 Lock.dec) Ref.decA fun q0 q1 => (locks_find N q0 q1).map fun r => .tup [.val (.int .i64 r.1), .val (.bool r.2)], false⟩
attribute [go_sem] fs_locks_find
theorem fs_locks_find_ok (N : Nat) : FSOk Try.prog 25 (fs_locks_find N) := ok2 (fun q0 q1 r h => by
  obtain ⟨r', hr, rfl⟩ := Option.map_eq_some_iff.1 h
  exact w_locks_find N q0 q1 r' hr) (fun h => decL_le Lock.dec_le h) (Ref.decA_le)


theorem w_slices_Clone_Lock_nn (N : Nat) (a0 : (List Lock)) (r : (List Lock)) (h : slices_Clone_Lock N a0 = some r) : Con Try.prog 52 [] false [.sl false (some false) 4 none (a0.map Lock.row)] (.sl true none 4 none (r.map Lock.row)) := by
  refine fun_ok4 (G := (glist [])) Try.func52 rfl (by decide) (by kernel_rfl) gn [] mix (Nat.le_of_ble_eq_true rfl) ?_
  simp only [Try.f52]
  unfold slices_Clone_Lock at h
  refine Wk_seq (Wk_regionZ fun Z hZ => ?_)
  simp only [go_sem, seval]
  refine hZ _ (pp (Wk_seq (Wk_seq (Wk_regionZ fun Z hZ => ?_))))
  simp only [go_sem, seval]
  refine hZ _ (pp (Wk_cond_f rfl ?_))
  first | rw [if_pos (rfl : true = true)] at h | rw [if_neg Bool.false_ne_true] at h | skip
  refine Wk_skip (pp (Wk_seq ?_))
  first | obtain ⟨ha1, h⟩ := apn_some h | (obtain ⟨ha1, h⟩ := apx_some h; rw [List.nil_append] at h)
  simp only [Nat.reduceAdd] at ha1
  refine Wk_regionZ fun Z hZ => ?_
  simp only [go_sem, seval, ha1]
  refine hZ _ (pp (Wk_ret (pp ?_)))
  cases h
  simp only [go_sem, seval]
  exact ⟨_, rfl, RokI.h⟩
theorem w_slices_Clone_Lock_nil (N : Nat)  (r : (List Lock)) (h : slices_Clone_Lock N [] = some r) : Con Try.prog 52 [] false [.val (.slice none 0 0)] (.sl true none 4 none (r.map Lock.row)) := by
  refine fun_ok4 (G := (glist [])) Try.func52 rfl (by decide) (by kernel_rfl) gn [] mix (Nat.le_of_ble_eq_true rfl) ?_
  simp only [Try.f52]
  unfold slices_Clone_Lock at h
  refine Wk_seq (Wk_regionZ fun Z hZ => ?_)
  simp only [go_sem, seval]
  refine hZ _ (pp (Wk_seq (Wk_seq (Wk_regionZ fun Z hZ => ?_))))
  simp only [go_sem, seval]
  refine hZ _ (pp (Wk_cond_t rfl ?_))
  first | rw [if_pos (rfl : true = true)] at h | rw [if_neg Bool.false_ne_true] at h | skip
  refine Wk_seq (Wk_regionZ fun Z hZ => ?_)
  simp only [go_sem, seval]
  refine hZ _ (pp (Wk_ret (pp ?_)))
  obtain rfl : r = [] := by simpa [apn] using h.symm
  simp only [go_sem, seval]
  exact ⟨_, rfl, RokI.h⟩
theorem w_slices_Clone_Lock (N : Nat) (a0 : (List Lock)) (r : (List Lock)) (h : slices_Clone_Lock N a0 = some r) : Con Try.prog 52 [] false [.sl false none 4 none (a0.map Lock.row)] (.sl true none 4 none (r.map Lock.row)) :=
  Con_nl (fun e => by obtain rfl : a0 = [] := List.map_eq_nil_iff.1 e; exact w_slices_Clone_Lock_nil N r h) (w_slices_Clone_Lock_nn N a0 r h)
def fs_slices_Clone_Lock (N : Nat) : FnS := ⟨[], false, fn1 (decL 4 Lock.dec) fun q0 => (slices_Clone_Lock N q0).map fun r => .sl false none 4 none (r.map Lock.row), false⟩
attribute [go_sem] fs_slices_Clone_Lock
theorem fs_slices_Clone_Lock_ok (N : Nat) : FSOk Try.prog 52 (fs_slices_Clone_Lock N) := ok1 (fun q0 r h => by
  obtain ⟨r', hr, rfl⟩ := Option.map_eq_some_iff.1 h
  exact (w_slices_Clone_Lock N q0 r' hr).res (by (try simp only [go_sem]); exact RokI.h)) (fun h => decL_le Lock.dec_le h)

def fso_slices_Clone_Lock (N : Nat) : FnS := ⟨[], false, fn1 (decL 4 Lock.dec) fun q0 => (slices_Clone_Lock N q0).map fun r => .sl true none 4 none (r.map Lock.row), false⟩
attribute [go_sem] fso_slices_Clone_Lock
theorem fso_slices_Clone_Lock_ok (N : Nat) : FSOk Try.prog 52 (fso_slices_Clone_Lock N) := ok1 (fun q0 r h => by
  obtain ⟨r', hr, rfl⟩ := Option.map_eq_some_iff.1 h
  exact w_slices_Clone_Lock N q0 r' hr) (fun h => decL_le Lock.dec_le h)


theorem w_slices_Clone_int_nn (N : Nat) (a0 : (List Int)) (r : (List Int)) (h : slices_Clone_int N a0 = some r) : Con Try.prog 53 [] true [.sl false (some false) 1 none (a0.map (rowI .i64))] (.sl true none 1 none (r.map (rowI .i64))) := by
  refine fun_ok4 (G := (glist [])) Try.func53 rfl (by decide) (by kernel_rfl) gn [] mix (Nat.le_of_ble_eq_true rfl) ?_
  simp only [Try.f53]
  unfold slices_Clone_int at h
  refine Wk_seq (Wk_regionZ fun Z hZ => ?_)
  simp only [go_sem, seval]
  refine hZ _ (pp (Wk_seq (Wk_seq (Wk_regionZ fun Z hZ => ?_))))
  simp only [go_sem, seval]
  refine hZ _ (pp (Wk_cond_f rfl ?_))
  first | rw [if_pos (rfl : true = true)] at h | rw [if_neg Bool.false_ne_true] at h | skip
  refine Wk_skip (pp (Wk_seq ?_))
  first | obtain ⟨ha1, h⟩ := apn_some h | (obtain ⟨ha1, h⟩ := apx_some h; rw [List.nil_append] at h)
  simp only [Nat.reduceAdd] at ha1
  refine Wk_regionZ fun Z hZ => ?_
  simp only [go_sem, seval, ha1]
  refine hZ _ (pp (Wk_ret (pp ?_)))
  cases h
  simp only [go_sem, seval]
  exact ⟨_, rfl, RokI.h, PureI.h⟩
theorem w_slices_Clone_int_nil (N : Nat)  (r : (List Int)) (h : slices_Clone_int N [] = some r) : Con Try.prog 53 [] true [.val (.slice none 0 0)] (.sl true none 1 none (r.map (rowI .i64))) := by
  refine fun_ok4 (G := (glist [])) Try.func53 rfl (by decide) (by kernel_rfl) gn [] mix (Nat.le_of_ble_eq_true rfl) ?_
  simp only [Try.f53]
  unfold slices_Clone_int at h
  refine Wk_seq (Wk_regionZ fun Z hZ => ?_)
  simp only [go_sem, seval]
  refine hZ _ (pp (Wk_seq (Wk_seq (Wk_regionZ fun Z hZ => ?_))))
  simp only [go_sem, seval]
  refine hZ _ (pp (Wk_cond_t rfl ?_))
  first | rw [if_pos (rfl : true = true)] at h | rw [if_neg Bool.false_ne_true] at h | skip
  refine Wk_seq (Wk_regionZ fun Z hZ => ?_)
  simp only [go_sem, seval]
  refine hZ _ (pp (Wk_ret (pp ?_)))
  obtain rfl : r = [] := by simpa [apn] using h.symm
  simp only [go_sem, seval]
  exact ⟨_, rfl, RokI.h, PureI.h⟩
theorem w_slices_Clone_int (N : Nat) (a0 : (List Int)) (r : (List Int)) (h : slices_Clone_int N a0 = some r) : Con Try.prog 53 [] true [.sl false none 1 none (a0.map (rowI .i64))] (.sl true none 1 none (r.map (rowI .i64))) :=
  Con_nl (fun e => by obtain rfl : a0 = [] := List.map_eq_nil_iff.1 e; exact w_slices_Clone_int_nil N r h) (w_slices_Clone_int_nn N a0 r h)
def fs_slices_Clone_int (N : Nat) : FnS := ⟨[], true, fn1 (decL 1 (dec1 (decI .i64))) fun q0 => (slices_Clone_int N q0).map fun r => .sl false none 1 none (r.map (rowI .i64)), false⟩
attribute [go_sem] fs_slices_Clone_int
theorem fs_slices_Clone_int_ok (N : Nat) : FSOk Try.prog 53 (fs_slices_Clone_int N) := ok1 (fun q0 r h => by
  obtain ⟨r', hr, rfl⟩ := Option.map_eq_some_iff.1 h
  exact (w_slices_Clone_int N q0 r' hr).res (by (try simp only [go_sem]); exact RokI.h)) (fun h => decL_le (decI1_le .i64) h)

def fso_slices_Clone_int (N : Nat) : FnS := ⟨[], true, fn1 (decL 1 (dec1 (decI .i64))) fun q0 => (slices_Clone_int N q0).map fun r => .sl true none 1 none (r.map (rowI .i64)), false⟩
attribute [go_sem] fso_slices_Clone_int
theorem fso_slices_Clone_int_ok (N : Nat) : FSOk Try.prog 53 (fso_slices_Clone_int N) := ok1 (fun q0 r h => by
  obtain ⟨r', hr, rfl⟩ := Option.map_eq_some_iff.1 h
  exact w_slices_Clone_int N q0 r' hr) (fun h => decL_le (decI1_le .i64) h)


noncomputable def G_locks_clone (N d f : Nat) : Option FnS := glist [(6, 52, fso_slices_Clone_Lock N), (19, 53, fso_slices_Clone_int N)] d f
attribute [go_sem] G_locks_clone
theorem w_locks_clone (N : Nat) (a0 : (List Lock)) (r : (List Lock)) (h : locks_clone N a0 = some r) : Con Try.prog 27 [] false [.sl false none 4 none (a0.map Lock.row)] (.sl true none 4 none (r.map Lock.rowD)) := by
  refine fun_ok4 (G := (G_locks_clone N)) Try.func27 rfl (by decide) (by kernel_rfl) (gc 6 (fso_slices_Clone_Lock_ok N) (gc 19 (fso_slices_Clone_int_ok N) gn)) [] mix (Nat.le_of_ble_eq_true rfl) ?_
  simp only [Try.f27]
  unfold locks_clone at h
  refine Wk_seq (Wk_regionZ fun Z hZ => ?_)
  simp (config := { maxSteps := 4000000 }) only [go_sem, seval]
  refine hZ _ (pp (Wk_seq ?_))
  obtain ⟨r1, hr1, h⟩ := Option.bind_eq_some_iff.1 h
  refine Wk_regionZ fun Z hZ => ?_
  simp (config := { maxSteps := 4000000 }) only [go_sem, seval, hr1]
  refine hZ _ (pp (Wk_seq (Wk_seq (Wk_regionZ fun Z hZ => ?_))))
  simp (config := { maxSteps := 4000000 }) only [go_sem, seval]
  refine hZ _ (pp (Wk_block (Wk_real fun hreal3 => ?_)))
  have hl2 := hreal3.lenX 6 (by simp only [go_sem, seval]; rfl)
  first | rw [List.length_map] at hl2 | rw [mxR_len] at hl2 | rw [← List.map_append, List.length_map] at hl2
  refine Wk_count (fun (v4 : Nat) (b : List Lock) => ⟨tab 24 (updT (updT (updT deadT 3 (.pal 6 [] 0 b.length none)) 8 (.val (.int .i64 ((r1.length : Nat) : Int)))) 9 (.val (.int .i64 ((v4 : Nat) : Int)))), (upd RZ 6 (.sl true none 4 none (mxR Lock.rowD Lock.row v4 b)))⟩) r1 h ?_ ?_
  · refine weak_roots ?_ ?_ <;> repeat' first | exact xn | exact rn | refine xc ?_ ?_ | refine rc ?_ ?_ ?_ | rfl | simp only [go_sem, seval, Bool.or_self, List.length_set, Int.natCast_zero, Int.cast_ofNat_Int, hr1]
  rintro v4 l3 _ h -
  rcases (count_cases r1.length v4).symm with ⟨hi4', hd7⟩ | ⟨hi4', hd7⟩
  · rw [hd7] at h
    simp only [locks_clone_L1] at h
    obtain ⟨hg11, h⟩ := lenG_some h
    refine Wk_seq (Wk_regionZ fun Z hZ => ?_)
    simp (config := { maxSteps := 4000000 }) only [go_sem, seval, hi4', mix_all hg11]
    refine hZ _ (pp (Wk_seq ?_))
    try simp only [Int.ofNat_lt, hi4', if_true, if_false] at h
    refine Wk_cond_f rfl (Wk_exit (pp (Wk_seq (Wk_regionZ fun Z hZ => ?_))))
    simp (config := { maxSteps := 4000000 }) only [go_sem, seval]
    refine hZ _ (pp (Wk_ret (pp ?_)))
    cases h
    simp (config := { maxSteps := 4000000 }) only [go_sem, seval]
    exact ⟨_, rfl, (by repeat' (first | exact ROk.refl _ | exact ROk.nil _ | ((refine ROk.of _ ?_ ?_); (focus ((repeat' (first | exact Le.refl _ | exact LeL.nil | exact Le.nils | exact LeLL.refl _ | refine LeLL.mapAppend ?_ ?_ | refine LeLL.cons ?_ ?_ | refine Le.sl ?_ | refine Le.tup ?_ | refine Le.agg ?_ | refine LeL.cons ?_ ?_)); done)); (focus ((repeat' (first | exact NoOwn.val _ | exact NoOwn.sl _ _ _ _ | refine NoOwn.tup ?_ | refine NoOwn.agg ?_ | exact noOwn_nil | refine noOwn_cons ?_ ?_)); done))) | ((refine ROk.own ?_ ?_); (focus ((repeat' (first | exact Le.refl _ | exact LeL.nil | exact Le.nils | exact LeLL.refl _ | refine LeLL.mapAppend ?_ ?_ | refine LeLL.cons ?_ ?_ | refine Le.sl ?_ | refine Le.tup ?_ | refine Le.agg ?_ | refine LeL.cons ?_ ?_)); done)); (focus ((first | exact RowOk.noOwn (rowI_ok .i64) _ | exact RowOk.noOwn Lock.row_ok _); done))) | refine ROk.agg rfl ?_ | refine ROk.tup rfl ?_ | exact rok_nil | refine rok_cons ?_ ?_))⟩
  rw [hd7] at h
  simp only [locks_clone_L1] at h
  have hw6 := wrap_succ hi4' hl2
  refine Wk_seq (Wk_regionZ fun Z hZ => ?_)
  simp (config := { maxSteps := 4000000 }) only [go_sem, seval, hi4']
  refine hZ _ (pp (Wk_seq ?_))
  try simp only [Int.ofNat_lt, hi4', if_true, if_false] at h
  refine Wk_cond_t rfl (Wk_skip (pp (Wk_seq (Wk_block (Wk_seq (Wk_regionZ fun Z hZ => ?_))))))
  simp (config := { maxSteps := 4000000 }) only [go_sem, seval]
  refine hZ _ (pp ?_)
  obtain ⟨x2, hb8, hx9, h⟩ := gx_some h
  try simp only [Int.toNat_natCast] at hx9
  try simp only [Int.ofNat_lt, Int.natCast_nonneg, true_and] at hb8
  obtain ⟨r3, hr10, h⟩ := Option.bind_eq_some_iff.1 h
  refine Wk_regionZ fun Z hZ => ?_
  simp (config := { maxSteps := 4000000 }) only [go_sem, seval, hb8, mix_get (f := Lock.rowD) (g := Lock.row) hx9, hr10, mix_of (f := Lock.rowD) (g := Lock.row) (rx := [.val (.string x2.Actor.Type_), .val (.string x2.Actor.Key), .val (.int .i64 x2.Owner), .sl false none 1 none (x2.Waiters.map (rowI .i64))]) hx9 rfl rfl]
  refine hZ _ (pp (Wk_regionZ fun Z hZ => ?_))
  simp (config := { maxSteps := 4000000 }) only [go_sem, seval, hw6]
  refine hZ _ (pp ?_)
  first | refine ⟨(l3.set v4 (Lock.mk x2.Actor x2.Owner r3)), ?_, h⟩ | refine ⟨hi4', (l3.set v4 (Lock.mk x2.Actor x2.Owner r3)), ?_, h⟩
  refine Weak.trans (weak_foldM (n := 6) (Lock.mk x2.Actor x2.Owner r3) hx9 (by simp only [go_sem, seval]; rfl) rfl rfl) ?_
  refine weak_roots ?_ ?_ <;> repeat' first | exact xn | exact rn | refine xc ?_ ?_ | refine rc ?_ ?_ ?_ | rfl | simp only [go_sem, seval, Bool.or_self, List.length_set]
def fs_locks_clone (N : Nat) : FnS := ⟨[], false, fn1 (decL 4 Lock.dec) fun q0 => (locks_clone N q0).map fun r => .sl false none 4 none (r.map Lock.row), false⟩
attribute [go_sem] fs_locks_clone
theorem fs_locks_clone_ok (N : Nat) : FSOk Try.prog 27 (fs_locks_clone N) := ok1 (fun q0 r h => by
  obtain ⟨r', hr, rfl⟩ := Option.map_eq_some_iff.1 h
  exact (w_locks_clone N q0 r' hr).res (by first | ((try simp only [go_sem]); exact RokI.h) | (repeat' (first | exact ROk.refl _ | exact ROk.nil _ | ((refine ROk.of _ ?_ ?_); (focus ((repeat' (first | exact Le.refl _ | exact LeL.nil | exact Le.nils | exact LeLL.refl _ | refine LeLL.mapAppend ?_ ?_ | refine LeLL.cons ?_ ?_ | refine Le.sl ?_ | refine Le.tup ?_ | refine Le.agg ?_ | refine LeL.cons ?_ ?_)); done)); (focus ((repeat' (first | exact NoOwn.val _ | exact NoOwn.sl _ _ _ _ | refine NoOwn.tup ?_ | refine NoOwn.agg ?_ | exact noOwn_nil | refine noOwn_cons ?_ ?_)); done))) | ((refine ROk.own ?_ ?_); (focus ((repeat' (first | exact Le.refl _ | exact LeL.nil | exact Le.nils | exact LeLL.refl _ | refine LeLL.mapAppend ?_ ?_ | refine LeLL.cons ?_ ?_ | refine Le.sl ?_ | refine Le.tup ?_ | refine Le.agg ?_ | refine LeL.cons ?_ ?_)); done)); (focus ((first | exact RowOk.noOwn (rowI_ok .i64) _ | exact RowOk.noOwn Lock.row_ok _); done))) | refine ROk.agg rfl ?_ | refine ROk.tup rfl ?_ | exact rok_nil | refine rok_cons ?_ ?_)))) (fun h => decL_le Lock.dec_le h)

def fso_locks_clone (N : Nat) : FnS := ⟨[], false, fn1 (decL 4 Lock.dec) fun q0 => (locks_clone N q0).map fun r => .sl true none 4 none (r.map Lock.row), false⟩
attribute [go_sem] fso_locks_clone
theorem fso_locks_clone_ok (N : Nat) : FSOk Try.prog 27 (fso_locks_clone N) := ok1 (fun q0 r h => by
  obtain ⟨r', hr, rfl⟩ := Option.map_eq_some_iff.1 h
  exact (w_locks_clone N q0 r' hr).res (by first | ((try simp only [go_sem]); exact RokI.h) | (repeat' (first | exact ROk.refl _ | exact ROk.nil _ | ((refine ROk.of _ ?_ ?_); (focus ((repeat' (first | exact Le.refl _ | exact LeL.nil | exact Le.nils | exact LeLL.refl _ | refine LeLL.mapAppend ?_ ?_ | refine LeLL.cons ?_ ?_ | refine Le.sl ?_ | refine Le.tup ?_ | refine Le.agg ?_ | refine LeL.cons ?_ ?_)); done)); (focus ((repeat' (first | exact NoOwn.val _ | exact NoOwn.sl _ _ _ _ | refine NoOwn.tup ?_ | refine NoOwn.agg ?_ | exact noOwn_nil | refine noOwn_cons ?_ ?_)); done))) | ((refine ROk.own ?_ ?_); (focus ((repeat' (first | exact Le.refl _ | exact LeL.nil | exact Le.nils | exact LeLL.refl _ | refine LeLL.mapAppend ?_ ?_ | refine LeLL.cons ?_ ?_ | refine Le.sl ?_ | refine Le.tup ?_ | refine Le.agg ?_ | refine LeL.cons ?_ ?_)); done)); (focus ((first | exact RowOk.noOwn (rowI_ok .i64) _ | exact RowOk.noOwn Lock.row_ok _); done))) | refine ROk.agg rfl ?_ | refine ROk.tup rfl ?_ | exact rok_nil | refine rok_cons ?_ ?_)))) (fun h => decL_le Lock.dec_le h)

def fsd_locks_clone (N : Nat) : FnS := ⟨[], false, fn1 (decL 4 Lock.dec) fun q0 => (locks_clone N q0).map fun r => .sl true none 4 none (r.map Lock.rowD), false⟩
attribute [go_sem] fsd_locks_clone
theorem fsd_locks_clone_ok (N : Nat) : FSOk Try.prog 27 (fsd_locks_clone N) := ok1 (fun q0 r h => by
  obtain ⟨r', hr, rfl⟩ := Option.map_eq_some_iff.1 h
  exact w_locks_clone N q0 r' hr) (fun h => decL_le Lock.dec_le h)


def fs_overlaps_slices_Insert_Lock : FnS := { own := [true, true], pure := false, fn := fun _ => none, peek := true }
theorem fs_overlaps_slices_Insert_Lock_own : fs_overlaps_slices_Insert_Lock.own = [true, true] := rfl
theorem fs_overlaps_slices_Insert_Lock_peek : fs_overlaps_slices_Insert_Lock.peek = true := rfl
theorem overlaps_slices_Insert_Lock : PeekOk Try.prog 50 :=
  peek_of (fn := Try.f50) (tS := 24) (tR := 4) (e := 46) (size := 4) Try.func50 rfl rfl (by kernel_rfl) (by kernel_rfl) (by kernel_rfl) (by kernel_rfl)
theorem fs_overlaps_slices_Insert_Lock_ok : FSOk Try.prog 50 fs_overlaps_slices_Insert_Lock := ⟨(fun cs r h => by simp [fs_overlaps_slices_Insert_Lock] at h), fun _ => overlaps_slices_Insert_Lock⟩
noncomputable def E_slices_Insert_Lock : Env := { T := tiOf Try.prog, G := fun d f => if d = 67 ∧ f = 50 then some fs_overlaps_slices_Insert_Lock else none }
theorem E_slices_Insert_Lock_T : E_slices_Insert_Lock.T = tiOf Try.prog := rfl
theorem E_slices_Insert_Lock_F (d : Nat) : E_slices_Insert_Lock.F d = none := rfl
theorem E_slices_Insert_Lock_L (d f : Nat) : E_slices_Insert_Lock.L d f = none := rfl
theorem E_slices_Insert_Lock_G : E_slices_Insert_Lock.G 67 50 = some fs_overlaps_slices_Insert_Lock := rfl
theorem E_slices_Insert_Lock_ok : GOk Try.prog { T := tiOf Try.prog, G := E_slices_Insert_Lock.G } := by
  refine ⟨?_, fun _ _ _ h => by cases h⟩
  intro d f fs hfs
  simp only [E_slices_Insert_Lock] at hfs
  split at hfs
  · rename_i hc; obtain ⟨rfl, rfl⟩ := hc; obtain rfl := Option.some.inj hfs; exact fs_overlaps_slices_Insert_Lock_ok
  cases hfs
theorem fo_slices_Insert_Lock : FunOk Try.prog 26 Try.f26 Try.f26.body.get! := ⟨Try.func26, rfl, by decide, by kernel_rfl⟩
set_option maxHeartbeats 4000000 in
theorem w1_slices_Insert_Lock {α : Type} (row : α → List C) (ok : RowOk row) (l : List α) (i : Nat) (x : α) (k : Nat) (r : List α) (hr : r = l.take i ++ [x] ++ l.drop i) (hi : i ≤ l.length) (hsz : (l.length + 1) * 64 ≤ 140737488355328) (hk1 : l.length ≤ k) (hk2 : k ≤ maxLen) :
    Con Try.prog 26 [true, false, true] false [.sl true none 4 (some k) (l.map row), .val (.int .i64 i), .sl true none 4 none ([x].map row)] (.sl true none 4 none (r.map row)) := by
  refine fun_own (E := E_slices_Insert_Lock) (tiOf_ok Try.prog _) E_slices_Insert_Lock_ok mix fo_slices_Insert_Lock (Nat.le_of_ble_eq_true rfl) ?_
  intro _
  rw [entry_tab (by simp)]
  rw [show entryF [true, false, true] [C.sl true none 4 (some k) (l.map row), C.val (.int .i64 i), C.sl true none 4 none ([x].map row)] = (updT (updT (updT deadT 0 (.pal 0 [] 0 l.length none)) 1 (.val (.int .i64 i))) 2 (.pal 2 [] 0 1 none)) from by funext t; match t with | 0 => simp [entryF, entryTmp, viewD, updT] | 1 => rfl | 2 => rfl | t + 3 => rfl]
  rw [show R0 [true, false, true] [C.sl true none 4 (some k) (l.map row), C.val (.int .i64 i), C.sl true none 4 none ([x].map row)] = upd (upd RZ 0 (C.sl true none 4 (some k) (l.map row))) 2 (C.sl true none 4 none ([x].map row)) from by funext t; match t with | 0 => rfl | 1 => rfl | 2 => rfl | t + 3 => rfl]
  apply W_start
  simp only [Try.f26, Option.get!]
  have hi1 : (i : Int) ≤ (l.length : Int) := by omega
  have hi2 : i ≤ l.length := hi
  have h10 : (((1 : Nat) : Int) = 0) = False := by simp
  have hp : (row x).all Abs.plainCell = true := ok.plain x
  have hf : (row x).map C.frz = (row x) := ok.frz x
  have hpD : (row x).all plainD = true := by have := (RowOk.allD ok [x]); simpa using this
  have hw1 : IntKind.i64.wrap ((l.length : Int) + ((1 : Nat) : Int)) = ((l.length + 1 : Nat) : Int) := by rw [wrap64_in (by omega) (by omega)]; rfl
  have hlt0 : (l.take i).length = i := by simp; omega
  have hes : (4 != 0) = true := rfl
  have hm1 : min 1 (l.length + 1 - i) = 1 := by omega
  have hm2 : min (l.length - i) (l.length + 1 - (i + 1)) = l.length - i := by omega
  have hm3 : (l.drop i).take (l.length - i) = l.drop i := List.take_of_length_le (by simp)
  have hm4 : i + 1 ≤ l.length + 1 := by omega
  have hw2 : IntKind.i64.wrap (((l.length + 1 : Nat) : Int) - (i : Int)) = ((l.length + 1 - i : Nat) : Int) := by rw [wrap64_in (by omega) (by omega)]; omega
  have hw1b : IntKind.i64.wrap ((l.length : Int) + 1) = ((l.length + 1 : Nat) : Int) := hw1
  have hw3 : IntKind.i64.wrap ((i : Int) + ((1 : Nat) : Int)) = ((i + 1 : Nat) : Int) := by rw [wrap64_in (by omega) (by omega)]; rfl
  have hw3b : IntKind.i64.wrap ((i : Int) + 1) = ((i + 1 : Nat) : Int) := hw3
  simp only [go_sem, seval, E_slices_Insert_Lock_T, E_slices_Insert_Lock_F, E_slices_Insert_Lock_L, E_slices_Insert_Lock_G, hi1, hi2, h10, Nat.le_refl, hp, hf, hpD, RowOk.frzRows ok, RowOk.all ok, RowOk.allPlain ok, RowOk.allD ok, rewritten, RX_cap, RX_copy, altX, roomS, roomC, cutC, copyX, resliceX, appendNewX, extOf, Ext.all, peekX, isOwnRoot, Option.map_some, hw1, hw2, hw3, hw1b, hw3b, Nat.min_self, Nat.zero_le, Nat.sub_zero, deepV, bne_self_eq_false, List.isEmpty_nil, decide_not, List.length_replicate, hlt0, hm1, hm2, hm3, hm4, fs_overlaps_slices_Insert_Lock_own, fs_overlaps_slices_Insert_Lock_peek, Nat.not_succ_le_self]
  refine W_cond_f rfl ?_
  simp only [go_sem, seval, E_slices_Insert_Lock_T, E_slices_Insert_Lock_F, E_slices_Insert_Lock_L, E_slices_Insert_Lock_G, hi1, hi2, h10, Nat.le_refl, hp, hf, hpD, RowOk.frzRows ok, RowOk.all ok, RowOk.allPlain ok, RowOk.allD ok, rewritten, RX_cap, RX_copy, altX, roomS, roomC, cutC, copyX, resliceX, appendNewX, extOf, Ext.all, peekX, isOwnRoot, Option.map_some, hw1, hw2, hw3, hw1b, hw3b, Nat.min_self, Nat.zero_le, Nat.sub_zero, deepV, bne_self_eq_false, List.isEmpty_nil, decide_not, List.length_replicate, hlt0, hm1, hm2, hm3, hm4, fs_overlaps_slices_Insert_Lock_own, fs_overlaps_slices_Insert_Lock_peek, Nat.not_succ_le_self]
  refine W_cond_dec rfl (fun hc => ?_) (fun hc => ?_)
  · have e : i = l.length := by omega
    subst e
    simp only [go_sem, seval, E_slices_Insert_Lock_T, E_slices_Insert_Lock_F, E_slices_Insert_Lock_L, E_slices_Insert_Lock_G, hi1, hi2, h10, Nat.le_refl, hp, hf, hpD, RowOk.frzRows ok, RowOk.all ok, RowOk.allPlain ok, RowOk.allD ok, rewritten, RX_cap, RX_copy, altX, roomS, roomC, cutC, copyX, resliceX, appendNewX, extOf, Ext.all, peekX, isOwnRoot, Option.map_some, hw1, hw2, hw3, hw1b, hw3b, Nat.min_self, Nat.zero_le, Nat.sub_zero, deepV, bne_self_eq_false, List.isEmpty_nil, decide_not, List.length_replicate, hlt0, hm1, hm2, hm3, hm4, fs_overlaps_slices_Insert_Lock_own, fs_overlaps_slices_Insert_Lock_peek, Nat.not_succ_le_self, FinO_ret, FinO_normal, hsz]
    refine fin_own ok ?_
    rw [hr]
    simp [List.take_of_length_le]
  · have hc1 : decide ((i : Int) = (l.length : Int)) = false := decide_eq_false hc
    have hlt : i < l.length := by omega
    simp only [go_sem, seval, E_slices_Insert_Lock_T, E_slices_Insert_Lock_F, E_slices_Insert_Lock_L, E_slices_Insert_Lock_G, hi1, hi2, h10, Nat.le_refl, hp, hf, hpD, RowOk.frzRows ok, RowOk.all ok, RowOk.allPlain ok, RowOk.allD ok, rewritten, RX_cap, RX_copy, altX, roomS, roomC, cutC, copyX, resliceX, appendNewX, extOf, Ext.all, peekX, isOwnRoot, Option.map_some, hw1, hw2, hw3, hw1b, hw3b, Nat.min_self, Nat.zero_le, Nat.sub_zero, deepV, bne_self_eq_false, List.isEmpty_nil, decide_not, List.length_replicate, hlt0, hm1, hm2, hm3, hm4, fs_overlaps_slices_Insert_Lock_own, fs_overlaps_slices_Insert_Lock_peek, Nat.not_succ_le_self, hc1]
    refine W_cond_dec rfl (fun hk => ?_) (fun hk => ?_)
    · have hk1 : decide (k < l.length + 1) = true := decide_eq_true hk
      have hk2 : k < i + (l.length + 1 - i) := by omega
      have e1 : i + (l.length + 1 - i) = l.length + 1 := by omega
      have hi3 : (i : Int) ≤ ((l.length + 1 : Nat) : Int) := by omega
      have hi4 : i ≤ l.length + 1 := by omega
      obtain ⟨A, hA⟩ : ∃ A, List.map row (List.take i l) ++ List.replicate (l.length + 1 - i) [C.val (Value.string ⟨#[]⟩), C.val (Value.string ⟨#[]⟩), C.val (Value.int .i64 0), C.val (Value.slice none 0 0)] = A := ⟨_, rfl⟩
      have hAp : plainL' A := by rw [← hA]; exact plainL'_append (plainL'_map ok _) (plainL'_vals _ [Value.string ⟨#[]⟩, Value.string ⟨#[]⟩, Value.int .i64 0, Value.slice none 0 0] (by simp [Value.oneCell']))
      have hAl : A.length = l.length + 1 := by rw [← hA, List.length_append, List.length_map, hlt0, List.length_replicate]; omega
      obtain ⟨B, hB⟩ : ∃ B, setRows A i [(row x)] = B := ⟨_, rfl⟩
      have hBp : plainL' B := by rw [← hB]; exact plainL'_set hAp ⟨by simp [frzRows, hf], by simp [hpD]⟩
      have hBl : B.length = l.length + 1 := by rw [← hB]; simp [setRows, hAl]; omega
      obtain ⟨D, hD⟩ : ∃ D, setRows B (i + 1) (List.map row (List.drop i l)) = D := ⟨_, rfl⟩
      have hDp : plainL' D := by rw [← hD]; exact plainL'_set hBp (plainL'_map ok _)
      have hDl : D.length = l.length + 1 := by rw [← hD]; simp [setRows, hBl]; omega
      have hDe : D = (l.take i ++ [x] ++ l.drop i).map row := by
        rw [← hD, ← hB, ← hA, List.map_take, List.map_drop, ins_new (A := l.map row) (n := l.length) (by simp) hi2 (by simp)]
        simp
      simp only [go_sem, seval, E_slices_Insert_Lock_T, E_slices_Insert_Lock_F, E_slices_Insert_Lock_L, E_slices_Insert_Lock_G, hi1, hi2, h10, Nat.le_refl, hp, hf, hpD, RowOk.frzRows ok, RowOk.all ok, RowOk.allPlain ok, RowOk.allD ok, rewritten, RX_cap, RX_copy, altX, roomS, roomC, cutC, copyX, resliceX, appendNewX, extOf, Ext.all, peekX, isOwnRoot, Option.map_some, hw1, hw2, hw3, hw1b, hw3b, Nat.min_self, Nat.zero_le, Nat.sub_zero, deepV, bne_self_eq_false, List.isEmpty_nil, decide_not, List.length_replicate, hlt0, hm1, hm2, hm3, hm4, fs_overlaps_slices_Insert_Lock_own, fs_overlaps_slices_Insert_Lock_peek, Nat.not_succ_le_self, hc1, hk1, hk, hk2, e1, hi3, hi4, hA, hAl, hAp.1, hAp.2, hB, hBp.1, hBp.2, hBl, hD, hDp.1, hDp.2, hsz]
      repeat' ((with_reducible refine and_bar ?_ ?_); kernel_rfl)
      simp only [go_sem, seval, E_slices_Insert_Lock_T, E_slices_Insert_Lock_F, E_slices_Insert_Lock_L, E_slices_Insert_Lock_G, hi1, hi2, h10, Nat.le_refl, hp, hf, hpD, RowOk.frzRows ok, RowOk.all ok, RowOk.allPlain ok, RowOk.allD ok, rewritten, RX_cap, RX_copy, altX, roomS, roomC, cutC, copyX, resliceX, appendNewX, extOf, Ext.all, peekX, isOwnRoot, Option.map_some, hw1, hw2, hw3, hw1b, hw3b, Nat.min_self, Nat.zero_le, Nat.sub_zero, deepV, bne_self_eq_false, List.isEmpty_nil, decide_not, List.length_replicate, hlt0, hm1, hm2, hm3, hm4, fs_overlaps_slices_Insert_Lock_own, fs_overlaps_slices_Insert_Lock_peek, Nat.not_succ_le_self, FinO_ret, FinO_normal, hDp.1, hDp.2, hD]
      refine fin_own ok ?_
      rw [hr, ← hDe, ← hDl, List.take_length]
    · have hk1 : decide (k < l.length + 1) = false := decide_eq_false hk
      have hk2 : ¬ k < i + (l.length + 1 - i) := by omega
      have hk3 : l.length + 1 ≤ k := by omega
      have e2 : l.length + 1 - l.length = 1 := by omega
      have e3 : l.length ≤ l.length + 1 := by omega
      have hi3 : (i : Int) ≤ ((l.length + 1 : Nat) : Int) := by omega
      have hi4 : i ≤ l.length + 1 := by omega
      have hne : ¬ l.length + 1 - (i + 1) = 0 := by omega
      have hne2 : ¬ l.length - i = 0 := by omega
      obtain ⟨A, hA⟩ : ∃ A, List.map row l ++ [[C.dead, C.dead, C.dead, C.dead]] = A := ⟨_, rfl⟩
      have hAp : plainL' A := by rw [← hA]; exact plainL'_append (plainL'_map ok _) (plainL'_dead 1 4)
      have hAl : A.length = l.length + 1 := by rw [← hA]; simp
      have hm5 : min (l.length + 1 - i) (l.length + 1 - (i + 1)) = l.length - i := by omega
      have hm5b : min (l.length + 1 - i) (l.length - i) = l.length - i := by omega
      obtain ⟨A2, hA2⟩ : ∃ A2, (A.drop i).take (l.length - i) = A2 := ⟨_, rfl⟩
      have hA2e : A2 = List.map row (l.drop i) := by
        rw [← hA2, ← hA, List.drop_append, List.length_map, show i - l.length = 0 by omega, List.drop_zero, List.take_append, List.take_of_length_le (by simp), show l.length - i - (List.drop i (List.map row l)).length = 0 by simp]
        simp [List.map_drop]
      have hA2p : (A2.all fun r => r.all Abs.plainCell) = true := by rw [hA2e]; exact ok.allPlain _
      have hA2f : frzRows A2 = A2 := by rw [hA2e]; exact ok.frzRows _
      have hA2d : plainL' A2 := by rw [hA2e]; exact plainL'_map ok _
      obtain ⟨B, hB⟩ : ∃ B, setRows A (i + 1) A2 = B := ⟨_, rfl⟩
      have hBp : plainL' B := by rw [← hB]; exact plainL'_set hAp hA2d
      have hBl : B.length = l.length + 1 := by rw [← hB]; simp [setRows, hAl, hA2e]; omega
      obtain ⟨D, hD⟩ : ∃ D, setRows B i [(row x)] = D := ⟨_, rfl⟩
      have hDp : plainL' D := by rw [← hD]; exact plainL'_set hBp ⟨by simp [frzRows, hf], by simp [hpD]⟩
      have hDl : D.length = l.length + 1 := by rw [← hD]; simp [setRows, hBl]; omega
      have hDe : D = (l.take i ++ [x] ++ l.drop i).map row := by
        rw [← hD, ← hB, ← hA2, ← hA, ins_here (A := l.map row) (n := l.length) (by simp) hi2]
        simp [List.map_take, List.map_drop]
      simp only [go_sem, seval, E_slices_Insert_Lock_T, E_slices_Insert_Lock_F, E_slices_Insert_Lock_L, E_slices_Insert_Lock_G, hi1, hi2, h10, Nat.le_refl, hp, hf, hpD, RowOk.frzRows ok, RowOk.all ok, RowOk.allPlain ok, RowOk.allD ok, rewritten, RX_cap, RX_copy, altX, roomS, roomC, cutC, copyX, resliceX, appendNewX, extOf, Ext.all, peekX, isOwnRoot, Option.map_some, hw1, hw2, hw3, hw1b, hw3b, Nat.min_self, Nat.zero_le, Nat.sub_zero, deepV, bne_self_eq_false, List.isEmpty_nil, decide_not, List.length_replicate, hlt0, hm1, hm2, hm3, hm4, fs_overlaps_slices_Insert_Lock_own, fs_overlaps_slices_Insert_Lock_peek, Nat.not_succ_le_self, hc1, hk1, hk, hk2, hk3, e2, e3, hi3, hi4, hne, hne2, hA, hAl, hAp.1, hAp.2, hes, hA2, hA2p, hA2f, hB, hBp.1, hBp.2, hBl, hD, hDp.1, hDp.2, hDl, hm5, hm5b]
      refine W_cond_t rfl ?_
      simp only [go_sem, seval, E_slices_Insert_Lock_T, E_slices_Insert_Lock_F, E_slices_Insert_Lock_L, E_slices_Insert_Lock_G, hi1, hi2, h10, Nat.le_refl, hp, hf, hpD, RowOk.frzRows ok, RowOk.all ok, RowOk.allPlain ok, RowOk.allD ok, rewritten, RX_cap, RX_copy, altX, roomS, roomC, cutC, copyX, resliceX, appendNewX, extOf, Ext.all, peekX, isOwnRoot, Option.map_some, hw1, hw2, hw3, hw1b, hw3b, Nat.min_self, Nat.zero_le, Nat.sub_zero, deepV, bne_self_eq_false, List.isEmpty_nil, decide_not, List.length_replicate, hlt0, hm1, hm2, hm3, hm4, fs_overlaps_slices_Insert_Lock_own, fs_overlaps_slices_Insert_Lock_peek, Nat.not_succ_le_self, hc1, hk1, hk, hk2, hk3, e2, e3, hi3, hi4, hne, hne2, hA, hAl, hAp.1, hAp.2, hes, hA2, hA2p, hA2f, hB, hBp.1, hBp.2, hBl, hD, hDp.1, hDp.2, hDl, hm5, hm5b]
      repeat' ((with_reducible refine and_bar ?_ ?_); kernel_rfl)
      simp only [go_sem, seval, E_slices_Insert_Lock_T, E_slices_Insert_Lock_F, E_slices_Insert_Lock_L, E_slices_Insert_Lock_G, hi1, hi2, h10, Nat.le_refl, hp, hf, hpD, RowOk.frzRows ok, RowOk.all ok, RowOk.allPlain ok, RowOk.allD ok, rewritten, RX_cap, RX_copy, altX, roomS, roomC, cutC, copyX, resliceX, appendNewX, extOf, Ext.all, peekX, isOwnRoot, Option.map_some, hw1, hw2, hw3, hw1b, hw3b, Nat.min_self, Nat.zero_le, Nat.sub_zero, deepV, bne_self_eq_false, List.isEmpty_nil, decide_not, List.length_replicate, hlt0, hm1, hm2, hm3, hm4, fs_overlaps_slices_Insert_Lock_own, fs_overlaps_slices_Insert_Lock_peek, Nat.not_succ_le_self, FinO_ret, FinO_normal, hDp.1, hDp.2, hD, hDl]
      refine fin_own ok ?_
      rw [hr, ← hDe, ← hDl, List.take_length]
theorem w_slices_Insert_Lock (N : Nat) (a0 : List Lock) (a1 : Int) (a2 : List Lock) (r : List Lock) (h : slices_Insert_Lock N a0 a1 a2 = some r) :
    Con Try.prog 26 [true, false, true] false [.sl true none 4 none (a0.map Lock.row), .val (.int .i64 a1), .sl true none 4 none (a2.map Lock.row)] (.sl true none 4 none (r.map Lock.row)) := by
  unfold slices_Insert_Lock at h
  obtain ⟨n, x, rfl, rfl, h1, h2, h3⟩ := insM_some h
  exact Con_cap fun k hk1 hk2 => w1_slices_Insert_Lock Lock.row Lock.row_ok a0 n x k r (Option.some.inj h3).symm h1 h2 (by simpa using hk1) hk2
def fso_slices_Insert_Lock (N : Nat) : FnS := { own := [true, false, true], pure := false, fn := fun cs => match cs with
  | [c0, c1, c2] => (decO 4 Lock.dec c0).bind fun q0 => (decI .i64 c1).bind fun q1 => (decO 4 Lock.dec c2).bind fun q2 => (slices_Insert_Lock N q0 q1 q2).map fun r => .sl true none 4 none (r.map Lock.row)
  | _ => none }
theorem fso_slices_Insert_Lock_own (N : Nat) : (fso_slices_Insert_Lock N).own = [true, false, true] := rfl
theorem fso_slices_Insert_Lock_pure (N : Nat) : (fso_slices_Insert_Lock N).pure = false := rfl
theorem fso_slices_Insert_Lock_peek (N : Nat) : (fso_slices_Insert_Lock N).peek = false := rfl
attribute [go_sem] fso_slices_Insert_Lock fso_slices_Insert_Lock_own fso_slices_Insert_Lock_pure fso_slices_Insert_Lock_peek
theorem fso_slices_Insert_Lock_ok (N : Nat) : FSOk Try.prog 26 (fso_slices_Insert_Lock N) := by
  refine ⟨fun cs r h => ?_, fun h => by cases h⟩
  simp only [fso_slices_Insert_Lock] at h
  split at h
  · simp only [Option.bind_eq_some_iff, Option.map_eq_some_iff] at h
    obtain ⟨q0, h0, q1, h1, q2, h2, r', hr, rfl⟩ := h
    exact (w_slices_Insert_Lock N q0 q1 q2 r' hr).argsO rfl (argsO_own (decO_ok Lock.row_ok Lock.dec_le h0) (argsO_le (decI_le h1) (argsO_own (decO_ok Lock.row_ok Lock.dec_le h2) argsO_nil)))
  · cases h


theorem w_cmp_isNaN_int (N : Nat) (a0 : Int) (r : Bool) (h : cmp_isNaN_int N a0 = some r) : Con Try.prog 63 [] true [.val (.int .i64 a0)] (.val (.bool r)) := by
  refine fun_ok4 (G := (glist [])) Try.func63 rfl (by decide) (by kernel_rfl) gn [] mix (Nat.le_of_ble_eq_true rfl) ?_
  simp only [Try.f63]
  unfold cmp_isNaN_int at h
  refine Wk_seq (Wk_regionZ fun Z hZ => ?_)
  simp only [go_sem, seval]
  refine hZ _ (pp (Wk_seq (Wk_regionZ fun Z hZ => ?_)))
  simp only [go_sem, seval]
  refine hZ _ (pp (Wk_ret (pp ?_)))
  cases h
  simp only [go_sem, seval]
  exact ⟨_, rfl, RokI.h, PureI.h⟩
def fs_cmp_isNaN_int (N : Nat) : FnS := ⟨[], true, fn1 (decI .i64) fun q0 => (cmp_isNaN_int N q0).map fun r => .val (.bool r), false⟩
attribute [go_sem] fs_cmp_isNaN_int
theorem fs_cmp_isNaN_int_ok (N : Nat) : FSOk Try.prog 63 (fs_cmp_isNaN_int N) := ok1 (fun q0 r h => by
  obtain ⟨r', hr, rfl⟩ := Option.map_eq_some_iff.1 h
  exact w_cmp_isNaN_int N q0 r' hr) (decI_le)


noncomputable def G_cmp_Less_int (N d f : Nat) : Option FnS := glist [(6, 63, fs_cmp_isNaN_int N), (9, 63, fs_cmp_isNaN_int N)] d f
attribute [go_sem] G_cmp_Less_int
theorem w_cmp_Less_int (N : Nat) (a0 : Int) (a1 : Int) (r : Bool) (h : cmp_Less_int N a0 a1 = some r) : Con Try.prog 54 [] true [.val (.int .i64 a0), .val (.int .i64 a1)] (.val (.bool r)) := by
  refine fun_ok4 (G := (G_cmp_Less_int N)) Try.func54 rfl (by decide) (by kernel_rfl) (gc 6 (fs_cmp_isNaN_int_ok N) (gc 9 (fs_cmp_isNaN_int_ok N) gn)) [] mix (Nat.le_of_ble_eq_true rfl) ?_
  simp only [Try.f54]
  unfold cmp_Less_int at h
  refine Wk_seq (Wk_regionZ fun Z hZ => ?_)
  simp only [go_sem, seval]
  refine hZ _ (pp (Wk_seq ?_))
  obtain ⟨r1, hr1, h⟩ := Option.bind_eq_some_iff.1 h
  refine Wk_regionZ fun Z hZ => ?_
  simp only [go_sem, seval, hr1]
  refine sw (RX_guard_bool rfl) (fun hc2 => ?_) (fun hc2 => ?_)
  · rw [if_neg (ne_true_of_eq_false hc2)] at h
    simp only [go_sem, seval, hc2]
    refine hZ _ (pp (Wk_ret (pp ?_)))
    cases h
    simp only [go_sem, seval]
    exact ⟨_, rfl, RokI.h, PureI.h⟩
  rw [if_pos hc2] at h
  obtain ⟨r2, hr3, h⟩ := Option.bind_eq_some_iff.1 h
  simp only [go_sem, seval, hc2, hr3]
  refine RX_guard_nbool rfl (fun hc4 => ?_) (fun hc4 => ?_)
  · rw [if_neg (ne_true_of_eq_false hc4)] at h
    simp only [go_sem, seval, hc4]
    refine hZ _ (pp (Wk_ret (pp ?_)))
    cases h
    simp only [go_sem, seval]
    exact ⟨_, rfl, RokI.h, PureI.h⟩
  rw [if_pos hc4] at h
  simp only [go_sem, seval, hc4]
  refine hZ _ (pp (Wk_ret (pp ?_)))
  cases h
  simp only [go_sem, seval]
  exact ⟨_, rfl, RokI.h, PureI.h⟩
def fs_cmp_Less_int (N : Nat) : FnS := ⟨[], true, fn2 (decI .i64) (decI .i64) fun q0 q1 => (cmp_Less_int N q0 q1).map fun r => .val (.bool r), false⟩
attribute [go_sem] fs_cmp_Less_int
theorem fs_cmp_Less_int_ok (N : Nat) : FSOk Try.prog 54 (fs_cmp_Less_int N) := ok2 (fun q0 q1 r h => by
  obtain ⟨r', hr, rfl⟩ := Option.map_eq_some_iff.1 h
  exact w_cmp_Less_int N q0 q1 r' hr) (decI_le) (decI_le)


theorem w_slices_isNaN_int (N : Nat) (a0 : Int) (r : Bool) (h : slices_isNaN_int N a0 = some r) : Con Try.prog 55 [] true [.val (.int .i64 a0)] (.val (.bool r)) := by
  refine fun_ok4 (G := (glist [])) Try.func55 rfl (by decide) (by kernel_rfl) gn [] mix (Nat.le_of_ble_eq_true rfl) ?_
  simp only [Try.f55]
  unfold slices_isNaN_int at h
  refine Wk_seq (Wk_regionZ fun Z hZ => ?_)
  simp only [go_sem, seval]
  refine hZ _ (pp (Wk_seq (Wk_regionZ fun Z hZ => ?_)))
  simp only [go_sem, seval]
  refine hZ _ (pp (Wk_ret (pp ?_)))
  cases h
  simp only [go_sem, seval]
  exact ⟨_, rfl, RokI.h, PureI.h⟩
def fs_slices_isNaN_int (N : Nat) : FnS := ⟨[], true, fn1 (decI .i64) fun q0 => (slices_isNaN_int N q0).map fun r => .val (.bool r), false⟩
attribute [go_sem] fs_slices_isNaN_int
theorem fs_slices_isNaN_int_ok (N : Nat) : FSOk Try.prog 55 (fs_slices_isNaN_int N) := ok1 (fun q0 r h => by
  obtain ⟨r', hr, rfl⟩ := Option.map_eq_some_iff.1 h
  exact w_slices_isNaN_int N q0 r' hr) (decI_le)


noncomputable def G_slices_BinarySearch_int (N d f : Nat) : Option FnS := glist [(27, 54, fs_cmp_Less_int N), (47, 55, fs_slices_isNaN_int N), (50, 55, fs_slices_isNaN_int N)] d f
attribute [go_sem] G_slices_BinarySearch_int
theorem w_slices_BinarySearch_int (N : Nat) (a0 : (List Int)) (a1 : Int) (r : Int × Bool) (h : slices_BinarySearch_int N a0 a1 = some r) : Con Try.prog 28 [] true [.sl false none 1 none (a0.map (rowI .i64)), .val (.int .i64 a1)] (.tup [.val (.int .i64 r.1), .val (.bool r.2)]) := by
  refine fun_ok4 (G := (G_slices_BinarySearch_int N)) Try.func28 rfl (by decide) (by kernel_rfl) (gc 27 (fs_cmp_Less_int_ok N) (gc 47 (fs_slices_isNaN_int_ok N) (gc 50 (fs_slices_isNaN_int_ok N) gn))) [] mix (Nat.le_of_ble_eq_true rfl) ?_
  simp only [Try.f28]
  unfold slices_BinarySearch_int at h
  refine Wk_seq (Wk_regionZ fun Z hZ => ?_)
  simp only [go_sem, seval]
  refine hZ _ (pp (Wk_seq (Wk_regionZ fun Z hZ => ?_)))
  simp only [go_sem, seval]
  refine hZ _ (pp (Wk_seq (Wk_regionZ fun Z hZ => ?_)))
  simp only [go_sem, seval]
  refine hZ _ (pp (Wk_seq (Wk_block (Wk_fuel (fun (b : Int × Int) => ⟨tab 54 (updT (updT (updT (updT (updT deadT 0 (.sl false none 1 none (a0.map (rowI .i64)))) 1 (.val (.int .i64 a1))) 6 (.val (.int .i64 ((a0.length : Nat) : Int)))) 7 (.val (.int .i64 b.1))) 8 (.val (.int .i64 b.2))), RZ⟩) (0, ((a0.length : Nat) : Int)) h ?_ ?_))))
  · refine weak_roots ?_ ?_ <;> repeat' first | exact xn | exact rn | refine xc ?_ ?_ | refine rc ?_ ?_ ?_ | rfl
  rintro n ⟨v2, v3⟩ h -
  cases n with
  | zero => simp [slices_BinarySearch_int_L1] at h
  | succ n =>
  simp only [slices_BinarySearch_int_L1] at h
  refine Wk_seq (Wk_seq (Wk_regionZ fun Z hZ => ?_))
  simp only [go_sem, seval]
  refine hZ _ (pp (Wk_cond_dec rfl (fun hc1 => ?_) (fun hc1 => ?_)))
  · have hc1d := decide_eq_true hc1
    rw [if_pos hc1] at h
    refine Wk_skip (pp (Wk_block (Wk_seq (Wk_regionZ fun Z hZ => ?_))))
    simp only [go_sem, seval, hc1d]
    refine hZ _ (pp (Wk_seq ?_))
    obtain ⟨x9, hb2, hx3, h⟩ := gx_some h
    obtain ⟨r10, hr4, h⟩ := Option.bind_eq_some_iff.1 h
    refine Wk_regionZ fun Z hZ => ?_
    simp only [go_sem, seval, hb2, hx3, hr4]
    refine hZ _ (pp (Wk_cond_bool rfl (fun hc5 => ?_) (fun hc5 => ?_)))
    · rw [if_pos hc5] at h
      refine Wk_regionZ fun Z hZ => ?_
      simp only [go_sem, seval, hc5]
      refine hZ _ (pp (⟨_, Nat.lt_succ_self _, (IntKind.i64.wrap ((IntKind.i64.wrap (shrI .u64 (IntKind.u64.wrap (IntKind.i64.wrap (v2 + v3))) 1)) + 1), v3), ?_, h⟩))
      refine weak_roots ?_ ?_ <;> repeat' first | exact xn | exact rn | refine xc ?_ ?_ | refine rc ?_ ?_ ?_ | rfl
    rw [if_neg (ne_true_of_eq_false hc5)] at h
    refine Wk_regionZ fun Z hZ => ?_
    simp only [go_sem, seval, hc5]
    refine hZ _ (pp (⟨_, Nat.lt_succ_self _, (v2, IntKind.i64.wrap (shrI .u64 (IntKind.u64.wrap (IntKind.i64.wrap (v2 + v3))) 1)), ?_, h⟩))
    refine weak_roots ?_ ?_ <;> repeat' first | exact xn | exact rn | refine xc ?_ ?_ | refine rc ?_ ?_ ?_ | rfl
  have hc1d := decide_eq_false hc1
  rw [if_neg hc1] at h
  refine Wk_exit (pp ?_)
  unfold slices_BinarySearch_int_J1 at h
  refine Wk_seq (Wk_regionZ fun Z hZ => ?_)
  simp only [go_sem, seval, hc1d]
  refine sw (RX_guard_dec rfl) (fun hc6 => ?_) (fun hc6 => ?_)
  · have hc6d := decide_eq_false hc6
    rw [if_neg hc6] at h
    simp only [go_sem, seval, hc6d]
    refine hZ _ (pp (Wk_ret (pp ?_)))
    cases h
    simp only [go_sem, seval]
    exact ⟨_, rfl, RokI.h, PureI.h⟩
  have hc6d := decide_eq_true hc6
  rw [if_pos hc6] at h
  obtain ⟨x11, hb7, hx8, h⟩ := gx_some h
  simp only [go_sem, seval, hb7, hx8]
  refine RX_guard_dec rfl (fun hc9 => ?_) (fun hc9 => ?_)
  · have hc9d := decide_eq_true hc9
    rw [if_pos hc9] at h
    simp only [go_sem, seval, hc9d]
    refine hZ _ (pp (Wk_ret (pp ?_)))
    cases h
    simp only [go_sem, seval]
    exact ⟨_, rfl, RokI.h, PureI.h⟩
  have hc9d := decide_eq_false hc9
  rw [if_neg hc9] at h
  obtain ⟨r12, hr10, h⟩ := Option.bind_eq_some_iff.1 h
  simp only [go_sem, seval, hb7, hx8, hc9d, hr10]
  refine RX_guard_bool rfl (fun hc11 => ?_) (fun hc11 => ?_)
  · rw [if_pos hc11] at h
    obtain ⟨r13, hr12, h⟩ := Option.bind_eq_some_iff.1 h
    simp only [go_sem, seval, hc11, hr12]
    refine hZ _ (pp (Wk_ret (pp ?_)))
    cases h
    simp only [go_sem, seval]
    exact ⟨_, rfl, RokI.h, PureI.h⟩
  rw [if_neg (ne_true_of_eq_false hc11)] at h
  simp only [go_sem, seval, hc11]
  refine hZ _ (pp (Wk_ret (pp ?_)))
  cases h
  simp only [go_sem, seval]
  exact ⟨_, rfl, RokI.h, PureI.h⟩
def fs_slices_BinarySearch_int (N : Nat) : FnS := ⟨[], true, fn2 (decL 1 (dec1 (decI .i64))) (decI .i64) fun q0 q1 => (slices_BinarySearch_int N q0 q1).map fun r => .tup [.val (.int .i64 r.1), .val (.bool r.2)], false⟩
attribute [go_sem] fs_slices_BinarySearch_int
theorem fs_slices_BinarySearch_int_ok (N : Nat) : FSOk Try.prog 28 (fs_slices_BinarySearch_int N) := ok2 (fun q0 q1 r h => by
  obtain ⟨r', hr, rfl⟩ := Option.map_eq_some_iff.1 h
  exact w_slices_BinarySearch_int N q0 q1 r' hr) (fun h => decL_le (decI1_le .i64) h) (decI_le)


def fs_overlaps_slices_Insert_int : FnS := { own := [true, true], pure := false, fn := fun _ => none, peek := true }
theorem fs_overlaps_slices_Insert_int_own : fs_overlaps_slices_Insert_int.own = [true, true] := rfl
theorem fs_overlaps_slices_Insert_int_peek : fs_overlaps_slices_Insert_int.peek = true := rfl
theorem overlaps_slices_Insert_int : PeekOk Try.prog 56 :=
  peek_of (fn := Try.f56) (tS := 44) (tR := 4) (e := 3) (size := 1) Try.func56 rfl rfl (by kernel_rfl) (by kernel_rfl) (by kernel_rfl) (by kernel_rfl)
theorem fs_overlaps_slices_Insert_int_ok : FSOk Try.prog 56 fs_overlaps_slices_Insert_int := ⟨(fun cs r h => by simp [fs_overlaps_slices_Insert_int] at h), fun _ => overlaps_slices_Insert_int⟩
noncomputable def E_slices_Insert_int : Env := { T := tiOf Try.prog, G := fun d f => if d = 67 ∧ f = 56 then some fs_overlaps_slices_Insert_int else none }
theorem E_slices_Insert_int_T : E_slices_Insert_int.T = tiOf Try.prog := rfl
theorem E_slices_Insert_int_F (d : Nat) : E_slices_Insert_int.F d = none := rfl
theorem E_slices_Insert_int_L (d f : Nat) : E_slices_Insert_int.L d f = none := rfl
theorem E_slices_Insert_int_G : E_slices_Insert_int.G 67 56 = some fs_overlaps_slices_Insert_int := rfl
theorem E_slices_Insert_int_ok : GOk Try.prog { T := tiOf Try.prog, G := E_slices_Insert_int.G } := by
  refine ⟨?_, fun _ _ _ h => by cases h⟩
  intro d f fs hfs
  simp only [E_slices_Insert_int] at hfs
  split at hfs
  · rename_i hc; obtain ⟨rfl, rfl⟩ := hc; obtain rfl := Option.some.inj hfs; exact fs_overlaps_slices_Insert_int_ok
  cases hfs
theorem fo_slices_Insert_int : FunOk Try.prog 29 Try.f29 Try.f29.body.get! := ⟨Try.func29, rfl, by decide, by kernel_rfl⟩
set_option maxHeartbeats 4000000 in
theorem w1_slices_Insert_int {α : Type} (row : α → List C) (ok : RowOk row) (l : List α) (i : Nat) (x : α) (k : Nat) (r : List α) (hr : r = l.take i ++ [x] ++ l.drop i) (hi : i ≤ l.length) (hsz : (l.length + 1) * 8 ≤ 140737488355328) (hk1 : l.length ≤ k) (hk2 : k ≤ maxLen) :
    Con Try.prog 29 [true, false, true] false [.sl true none 1 (some k) (l.map row), .val (.int .i64 i), .sl true none 1 none ([x].map row)] (.sl true none 1 none (r.map row)) := by
  refine fun_own (E := E_slices_Insert_int) (tiOf_ok Try.prog _) E_slices_Insert_int_ok mix fo_slices_Insert_int (Nat.le_of_ble_eq_true rfl) ?_
  intro _
  rw [entry_tab (by simp)]
  rw [show entryF [true, false, true] [C.sl true none 1 (some k) (l.map row), C.val (.int .i64 i), C.sl true none 1 none ([x].map row)] = (updT (updT (updT deadT 0 (.pal 0 [] 0 l.length none)) 1 (.val (.int .i64 i))) 2 (.pal 2 [] 0 1 none)) from by funext t; match t with | 0 => simp [entryF, entryTmp, viewD, updT] | 1 => rfl | 2 => rfl | t + 3 => rfl]
  rw [show R0 [true, false, true] [C.sl true none 1 (some k) (l.map row), C.val (.int .i64 i), C.sl true none 1 none ([x].map row)] = upd (upd RZ 0 (C.sl true none 1 (some k) (l.map row))) 2 (C.sl true none 1 none ([x].map row)) from by funext t; match t with | 0 => rfl | 1 => rfl | 2 => rfl | t + 3 => rfl]
  apply W_start
  simp only [Try.f29, Option.get!]
  have hi1 : (i : Int) ≤ (l.length : Int) := by omega
  have hi2 : i ≤ l.length := hi
  have h10 : (((1 : Nat) : Int) = 0) = False := by simp
  have hp : (row x).all Abs.plainCell = true := ok.plain x
  have hf : (row x).map C.frz = (row x) := ok.frz x
  have hpD : (row x).all plainD = true := by have := (RowOk.allD ok [x]); simpa using this
  have hw1 : IntKind.i64.wrap ((l.length : Int) + ((1 : Nat) : Int)) = ((l.length + 1 : Nat) : Int) := by rw [wrap64_in (by omega) (by omega)]; rfl
  have hlt0 : (l.take i).length = i := by simp; omega
  have hes : (1 != 0) = true := rfl
  have hm1 : min 1 (l.length + 1 - i) = 1 := by omega
  have hm2 : min (l.length - i) (l.length + 1 - (i + 1)) = l.length - i := by omega
  have hm3 : (l.drop i).take (l.length - i) = l.drop i := List.take_of_length_le (by simp)
  have hm4 : i + 1 ≤ l.length + 1 := by omega
  have hw2 : IntKind.i64.wrap (((l.length + 1 : Nat) : Int) - (i : Int)) = ((l.length + 1 - i : Nat) : Int) := by rw [wrap64_in (by omega) (by omega)]; omega
  have hw1b : IntKind.i64.wrap ((l.length : Int) + 1) = ((l.length + 1 : Nat) : Int) := hw1
  have hw3 : IntKind.i64.wrap ((i : Int) + ((1 : Nat) : Int)) = ((i + 1 : Nat) : Int) := by rw [wrap64_in (by omega) (by omega)]; rfl
  have hw3b : IntKind.i64.wrap ((i : Int) + 1) = ((i + 1 : Nat) : Int) := hw3
  simp only [go_sem, seval, E_slices_Insert_int_T, E_slices_Insert_int_F, E_slices_Insert_int_L, E_slices_Insert_int_G, hi1, hi2, h10, Nat.le_refl, hp, hf, hpD, RowOk.frzRows ok, RowOk.all ok, RowOk.allPlain ok, RowOk.allD ok, rewritten, RX_cap, RX_copy, altX, roomS, roomC, cutC, copyX, resliceX, appendNewX, extOf, Ext.all, peekX, isOwnRoot, Option.map_some, hw1, hw2, hw3, hw1b, hw3b, Nat.min_self, Nat.zero_le, Nat.sub_zero, deepV, bne_self_eq_false, List.isEmpty_nil, decide_not, List.length_replicate, hlt0, hm1, hm2, hm3, hm4, fs_overlaps_slices_Insert_int_own, fs_overlaps_slices_Insert_int_peek, Nat.not_succ_le_self]
  refine W_cond_f rfl ?_
  simp only [go_sem, seval, E_slices_Insert_int_T, E_slices_Insert_int_F, E_slices_Insert_int_L, E_slices_Insert_int_G, hi1, hi2, h10, Nat.le_refl, hp, hf, hpD, RowOk.frzRows ok, RowOk.all ok, RowOk.allPlain ok, RowOk.allD ok, rewritten, RX_cap, RX_copy, altX, roomS, roomC, cutC, copyX, resliceX, appendNewX, extOf, Ext.all, peekX, isOwnRoot, Option.map_some, hw1, hw2, hw3, hw1b, hw3b, Nat.min_self, Nat.zero_le, Nat.sub_zero, deepV, bne_self_eq_false, List.isEmpty_nil, decide_not, List.length_replicate, hlt0, hm1, hm2, hm3, hm4, fs_overlaps_slices_Insert_int_own, fs_overlaps_slices_Insert_int_peek, Nat.not_succ_le_self]
  refine W_cond_dec rfl (fun hc => ?_) (fun hc => ?_)
  · have e : i = l.length := by omega
    subst e
    simp only [go_sem, seval, E_slices_Insert_int_T, E_slices_Insert_int_F, E_slices_Insert_int_L, E_slices_Insert_int_G, hi1, hi2, h10, Nat.le_refl, hp, hf, hpD, RowOk.frzRows ok, RowOk.all ok, RowOk.allPlain ok, RowOk.allD ok, rewritten, RX_cap, RX_copy, altX, roomS, roomC, cutC, copyX, resliceX, appendNewX, extOf, Ext.all, peekX, isOwnRoot, Option.map_some, hw1, hw2, hw3, hw1b, hw3b, Nat.min_self, Nat.zero_le, Nat.sub_zero, deepV, bne_self_eq_false, List.isEmpty_nil, decide_not, List.length_replicate, hlt0, hm1, hm2, hm3, hm4, fs_overlaps_slices_Insert_int_own, fs_overlaps_slices_Insert_int_peek, Nat.not_succ_le_self, FinO_ret, FinO_normal, hsz]
    refine fin_own ok ?_
    rw [hr]
    simp [List.take_of_length_le]
  · have hc1 : decide ((i : Int) = (l.length : Int)) = false := decide_eq_false hc
    have hlt : i < l.length := by omega
    simp only [go_sem, seval, E_slices_Insert_int_T, E_slices_Insert_int_F, E_slices_Insert_int_L, E_slices_Insert_int_G, hi1, hi2, h10, Nat.le_refl, hp, hf, hpD, RowOk.frzRows ok, RowOk.all ok, RowOk.allPlain ok, RowOk.allD ok, rewritten, RX_cap, RX_copy, altX, roomS, roomC, cutC, copyX, resliceX, appendNewX, extOf, Ext.all, peekX, isOwnRoot, Option.map_some, hw1, hw2, hw3, hw1b, hw3b, Nat.min_self, Nat.zero_le, Nat.sub_zero, deepV, bne_self_eq_false, List.isEmpty_nil, decide_not, List.length_replicate, hlt0, hm1, hm2, hm3, hm4, fs_overlaps_slices_Insert_int_own, fs_overlaps_slices_Insert_int_peek, Nat.not_succ_le_self, hc1]
    refine W_cond_dec rfl (fun hk => ?_) (fun hk => ?_)
    · have hk1 : decide (k < l.length + 1) = true := decide_eq_true hk
      have hk2 : k < i + (l.length + 1 - i) := by omega
      have e1 : i + (l.length + 1 - i) = l.length + 1 := by omega
      have hi3 : (i : Int) ≤ ((l.length + 1 : Nat) : Int) := by omega
      have hi4 : i ≤ l.length + 1 := by omega
      obtain ⟨A, hA⟩ : ∃ A, List.map row (List.take i l) ++ List.replicate (l.length + 1 - i) [C.val (Value.int .i64 0)] = A := ⟨_, rfl⟩
      have hAp : plainL' A := by rw [← hA]; exact plainL'_append (plainL'_map ok _) (plainL'_vals _ [Value.int .i64 0] (by simp [Value.oneCell']))
      have hAl : A.length = l.length + 1 := by rw [← hA, List.length_append, List.length_map, hlt0, List.length_replicate]; omega
      obtain ⟨B, hB⟩ : ∃ B, setRows A i [(row x)] = B := ⟨_, rfl⟩
      have hBp : plainL' B := by rw [← hB]; exact plainL'_set hAp ⟨by simp [frzRows, hf], by simp [hpD]⟩
      have hBl : B.length = l.length + 1 := by rw [← hB]; simp [setRows, hAl]; omega
      obtain ⟨D, hD⟩ : ∃ D, setRows B (i + 1) (List.map row (List.drop i l)) = D := ⟨_, rfl⟩
      have hDp : plainL' D := by rw [← hD]; exact plainL'_set hBp (plainL'_map ok _)
      have hDl : D.length = l.length + 1 := by rw [← hD]; simp [setRows, hBl]; omega
      have hDe : D = (l.take i ++ [x] ++ l.drop i).map row := by
        rw [← hD, ← hB, ← hA, List.map_take, List.map_drop, ins_new (A := l.map row) (n := l.length) (by simp) hi2 (by simp)]
        simp
      simp only [go_sem, seval, E_slices_Insert_int_T, E_slices_Insert_int_F, E_slices_Insert_int_L, E_slices_Insert_int_G, hi1, hi2, h10, Nat.le_refl, hp, hf, hpD, RowOk.frzRows ok, RowOk.all ok, RowOk.allPlain ok, RowOk.allD ok, rewritten, RX_cap, RX_copy, altX, roomS, roomC, cutC, copyX, resliceX, appendNewX, extOf, Ext.all, peekX, isOwnRoot, Option.map_some, hw1, hw2, hw3, hw1b, hw3b, Nat.min_self, Nat.zero_le, Nat.sub_zero, deepV, bne_self_eq_false, List.isEmpty_nil, decide_not, List.length_replicate, hlt0, hm1, hm2, hm3, hm4, fs_overlaps_slices_Insert_int_own, fs_overlaps_slices_Insert_int_peek, Nat.not_succ_le_self, hc1, hk1, hk, hk2, e1, hi3, hi4, hA, hAl, hAp.1, hAp.2, hB, hBp.1, hBp.2, hBl, hD, hDp.1, hDp.2, hsz]
      repeat' ((with_reducible refine and_bar ?_ ?_); kernel_rfl)
      simp only [go_sem, seval, E_slices_Insert_int_T, E_slices_Insert_int_F, E_slices_Insert_int_L, E_slices_Insert_int_G, hi1, hi2, h10, Nat.le_refl, hp, hf, hpD, RowOk.frzRows ok, RowOk.all ok, RowOk.allPlain ok, RowOk.allD ok, rewritten, RX_cap, RX_copy, altX, roomS, roomC, cutC, copyX, resliceX, appendNewX, extOf, Ext.all, peekX, isOwnRoot, Option.map_some, hw1, hw2, hw3, hw1b, hw3b, Nat.min_self, Nat.zero_le, Nat.sub_zero, deepV, bne_self_eq_false, List.isEmpty_nil, decide_not, List.length_replicate, hlt0, hm1, hm2, hm3, hm4, fs_overlaps_slices_Insert_int_own, fs_overlaps_slices_Insert_int_peek, Nat.not_succ_le_self, FinO_ret, FinO_normal, hDp.1, hDp.2, hD]
      refine fin_own ok ?_
      rw [hr, ← hDe, ← hDl, List.take_length]
    · have hk1 : decide (k < l.length + 1) = false := decide_eq_false hk
      have hk2 : ¬ k < i + (l.length + 1 - i) := by omega
      have hk3 : l.length + 1 ≤ k := by omega
      have e2 : l.length + 1 - l.length = 1 := by omega
      have e3 : l.length ≤ l.length + 1 := by omega
      have hi3 : (i : Int) ≤ ((l.length + 1 : Nat) : Int) := by omega
      have hi4 : i ≤ l.length + 1 := by omega
      have hne : ¬ l.length + 1 - (i + 1) = 0 := by omega
      have hne2 : ¬ l.length - i = 0 := by omega
      obtain ⟨A, hA⟩ : ∃ A, List.map row l ++ [[C.dead]] = A := ⟨_, rfl⟩
      have hAp : plainL' A := by rw [← hA]; exact plainL'_append (plainL'_map ok _) (plainL'_dead 1 1)
      have hAl : A.length = l.length + 1 := by rw [← hA]; simp
      have hm5 : min (l.length + 1 - i) (l.length + 1 - (i + 1)) = l.length - i := by omega
      have hm5b : min (l.length + 1 - i) (l.length - i) = l.length - i := by omega
      obtain ⟨A2, hA2⟩ : ∃ A2, (A.drop i).take (l.length - i) = A2 := ⟨_, rfl⟩
      have hA2e : A2 = List.map row (l.drop i) := by
        rw [← hA2, ← hA, List.drop_append, List.length_map, show i - l.length = 0 by omega, List.drop_zero, List.take_append, List.take_of_length_le (by simp), show l.length - i - (List.drop i (List.map row l)).length = 0 by simp]
        simp [List.map_drop]
      have hA2p : (A2.all fun r => r.all Abs.plainCell) = true := by rw [hA2e]; exact ok.allPlain _
      have hA2f : frzRows A2 = A2 := by rw [hA2e]; exact ok.frzRows _
      have hA2d : plainL' A2 := by rw [hA2e]; exact plainL'_map ok _
      obtain ⟨B, hB⟩ : ∃ B, setRows A (i + 1) A2 = B := ⟨_, rfl⟩
      have hBp : plainL' B := by rw [← hB]; exact plainL'_set hAp hA2d
      have hBl : B.length = l.length + 1 := by rw [← hB]; simp [setRows, hAl, hA2e]; omega
      obtain ⟨D, hD⟩ : ∃ D, setRows B i [(row x)] = D := ⟨_, rfl⟩
      have hDp : plainL' D := by rw [← hD]; exact plainL'_set hBp ⟨by simp [frzRows, hf], by simp [hpD]⟩
      have hDl : D.length = l.length + 1 := by rw [← hD]; simp [setRows, hBl]; omega
      have hDe : D = (l.take i ++ [x] ++ l.drop i).map row := by
        rw [← hD, ← hB, ← hA2, ← hA, ins_here (A := l.map row) (n := l.length) (by simp) hi2]
        simp [List.map_take, List.map_drop]
      simp only [go_sem, seval, E_slices_Insert_int_T, E_slices_Insert_int_F, E_slices_Insert_int_L, E_slices_Insert_int_G, hi1, hi2, h10, Nat.le_refl, hp, hf, hpD, RowOk.frzRows ok, RowOk.all ok, RowOk.allPlain ok, RowOk.allD ok, rewritten, RX_cap, RX_copy, altX, roomS, roomC, cutC, copyX, resliceX, appendNewX, extOf, Ext.all, peekX, isOwnRoot, Option.map_some, hw1, hw2, hw3, hw1b, hw3b, Nat.min_self, Nat.zero_le, Nat.sub_zero, deepV, bne_self_eq_false, List.isEmpty_nil, decide_not, List.length_replicate, hlt0, hm1, hm2, hm3, hm4, fs_overlaps_slices_Insert_int_own, fs_overlaps_slices_Insert_int_peek, Nat.not_succ_le_self, hc1, hk1, hk, hk2, hk3, e2, e3, hi3, hi4, hne, hne2, hA, hAl, hAp.1, hAp.2, hes, hA2, hA2p, hA2f, hB, hBp.1, hBp.2, hBl, hD, hDp.1, hDp.2, hDl, hm5, hm5b]
      refine W_cond_t rfl ?_
      simp only [go_sem, seval, E_slices_Insert_int_T, E_slices_Insert_int_F, E_slices_Insert_int_L, E_slices_Insert_int_G, hi1, hi2, h10, Nat.le_refl, hp, hf, hpD, RowOk.frzRows ok, RowOk.all ok, RowOk.allPlain ok, RowOk.allD ok, rewritten, RX_cap, RX_copy, altX, roomS, roomC, cutC, copyX, resliceX, appendNewX, extOf, Ext.all, peekX, isOwnRoot, Option.map_some, hw1, hw2, hw3, hw1b, hw3b, Nat.min_self, Nat.zero_le, Nat.sub_zero, deepV, bne_self_eq_false, List.isEmpty_nil, decide_not, List.length_replicate, hlt0, hm1, hm2, hm3, hm4, fs_overlaps_slices_Insert_int_own, fs_overlaps_slices_Insert_int_peek, Nat.not_succ_le_self, hc1, hk1, hk, hk2, hk3, e2, e3, hi3, hi4, hne, hne2, hA, hAl, hAp.1, hAp.2, hes, hA2, hA2p, hA2f, hB, hBp.1, hBp.2, hBl, hD, hDp.1, hDp.2, hDl, hm5, hm5b]
      repeat' ((with_reducible refine and_bar ?_ ?_); kernel_rfl)
      simp only [go_sem, seval, E_slices_Insert_int_T, E_slices_Insert_int_F, E_slices_Insert_int_L, E_slices_Insert_int_G, hi1, hi2, h10, Nat.le_refl, hp, hf, hpD, RowOk.frzRows ok, RowOk.all ok, RowOk.allPlain ok, RowOk.allD ok, rewritten, RX_cap, RX_copy, altX, roomS, roomC, cutC, copyX, resliceX, appendNewX, extOf, Ext.all, peekX, isOwnRoot, Option.map_some, hw1, hw2, hw3, hw1b, hw3b, Nat.min_self, Nat.zero_le, Nat.sub_zero, deepV, bne_self_eq_false, List.isEmpty_nil, decide_not, List.length_replicate, hlt0, hm1, hm2, hm3, hm4, fs_overlaps_slices_Insert_int_own, fs_overlaps_slices_Insert_int_peek, Nat.not_succ_le_self, FinO_ret, FinO_normal, hDp.1, hDp.2, hD, hDl]
      refine fin_own ok ?_
      rw [hr, ← hDe, ← hDl, List.take_length]
theorem w_slices_Insert_int (N : Nat) (a0 : List Int) (a1 : Int) (a2 : List Int) (r : List Int) (h : slices_Insert_int N a0 a1 a2 = some r) :
    Con Try.prog 29 [true, false, true] false [.sl true none 1 none (a0.map (rowI .i64)), .val (.int .i64 a1), .sl true none 1 none (a2.map (rowI .i64))] (.sl true none 1 none (r.map (rowI .i64))) := by
  unfold slices_Insert_int at h
  obtain ⟨n, x, rfl, rfl, h1, h2, h3⟩ := insM_some h
  exact Con_cap fun k hk1 hk2 => w1_slices_Insert_int (rowI .i64) (rowI_ok .i64) a0 n x k r (Option.some.inj h3).symm h1 h2 (by simpa using hk1) hk2
def fso_slices_Insert_int (N : Nat) : FnS := { own := [true, false, true], pure := false, fn := fun cs => match cs with
  | [c0, c1, c2] => (decO 1 (dec1 (decI .i64)) c0).bind fun q0 => (decI .i64 c1).bind fun q1 => (decO 1 (dec1 (decI .i64)) c2).bind fun q2 => (slices_Insert_int N q0 q1 q2).map fun r => .sl true none 1 none (r.map (rowI .i64))
  | _ => none }
theorem fso_slices_Insert_int_own (N : Nat) : (fso_slices_Insert_int N).own = [true, false, true] := rfl
theorem fso_slices_Insert_int_pure (N : Nat) : (fso_slices_Insert_int N).pure = false := rfl
theorem fso_slices_Insert_int_peek (N : Nat) : (fso_slices_Insert_int N).peek = false := rfl
attribute [go_sem] fso_slices_Insert_int fso_slices_Insert_int_own fso_slices_Insert_int_pure fso_slices_Insert_int_peek
theorem fso_slices_Insert_int_ok (N : Nat) : FSOk Try.prog 29 (fso_slices_Insert_int N) := by
  refine ⟨fun cs r h => ?_, fun h => by cases h⟩
  simp only [fso_slices_Insert_int] at h
  split at h
  · simp only [Option.bind_eq_some_iff, Option.map_eq_some_iff] at h
    obtain ⟨q0, h0, q1, h1, q2, h2, r', hr, rfl⟩ := h
    exact (w_slices_Insert_int N q0 q1 q2 r' hr).argsO rfl (argsO_own (decO_ok (rowI_ok .i64) (decI1_le .i64) h0) (argsO_le (decI_le h1) (argsO_own (decO_ok (rowI_ok .i64) (decI1_le .i64) h2) argsO_nil)))
  · cases h


noncomputable def G_locks_Acquire (N d f : Nat) : Option FnS := glist [(14, 21, fs_locks_Valid N), (18, 23, fs_locks_validActor N), (23, 24, fs_locks_validTxn N), (29, 25, fs_locks_find N), (38, 27, fso_locks_clone N), (44, 26, fso_slices_Insert_Lock N), (52, 28, fs_slices_BinarySearch_int N), (64, 27, fso_locks_clone N), (74, 27, fso_locks_clone N), (78, 27, fso_locks_clone N), (88, 27, fsd_locks_clone N), (99, 29, fso_slices_Insert_int N)] d f
attribute [go_sem] G_locks_Acquire
theorem w_locks_Acquire (N : Nat) (a0 : (List Lock)) (a1 : Ref) (a2 : Int) (r : (List Lock) × Int × Int) (h : locks_Acquire N a0 a1 a2 = some r) : Con Try.prog 9 [] false [.sl false none 4 none (a0.map Lock.row), .agg [.val (.string a1.Type_), .val (.string a1.Key)], .val (.int .i64 a2)] (.tup [.sl true none 4 none (r.1.map Lock.row), .val (.int .i64 r.2.1), .val (.int .i64 r.2.2)]) := by
  refine fun_ok4 (G := (G_locks_Acquire N)) Try.func9 rfl (by decide) (by kernel_rfl) (gc 14 (fs_locks_Valid_ok N) (gc 18 (fs_locks_validActor_ok N) (gc 23 (fs_locks_validTxn_ok N) (gc 29 (fs_locks_find_ok N) (gc 38 (fso_locks_clone_ok N) (gc 44 (fso_slices_Insert_Lock_ok N) (gc 52 (fs_slices_BinarySearch_int_ok N) (gc 64 (fso_locks_clone_ok N) (gc 74 (fso_locks_clone_ok N) (gc 78 (fso_locks_clone_ok N) (gc 88 (fsd_locks_clone_ok N) (gc 99 (fso_slices_Insert_int_ok N) gn)))))))))))) [] mix (Nat.le_of_ble_eq_true rfl) ?_
  simp only [Try.f9]
  unfold locks_Acquire at h
  refine Wk_seq (Wk_regionZ fun Z hZ => ?_)
  simp only [go_sem, seval]
  refine hZ _ (pp (Wk_seq ?_))
  apply Wk_join1 (fun (c9 : Bool) => ⟨tab 103 (updT (updT (updT (updT deadT 0 (.sl false none 4 none (a0.map Lock.row))) 2 (.val (.int .i64 a2))) 4 (.pref 4 [] 0 0)) 25 (.val (.bool c9))), (upd RZ 4 (.sl true none 2 (some 1) [[.val (.string a1.Type_), .val (.string a1.Key)]]))⟩)
  · intro hJ1
    obtain ⟨r10, hr2, h⟩ := Option.bind_eq_some_iff.1 h
    refine Wk_regionZ fun Z hZ => ?_
    simp only [go_sem, seval, hr2]
    refine RX_guard_nbool rfl (fun hc3 => ?_) (fun hc3 => ?_)
    · rw [if_neg (ne_true_of_eq_false hc3)] at h
      simp only [go_sem, seval, hc3]
      refine hZ _ (pp (hJ1 _ true ?_ h))
      refine weak_roots ?_ ?_ <;> repeat' first | exact xn | exact rn | refine xc ?_ ?_ | refine rc ?_ ?_ ?_ | rfl
    rw [if_pos hc3] at h
    obtain ⟨r11, hr4, h⟩ := Option.bind_eq_some_iff.1 h
    simp only [go_sem, seval, hc3, hr4]
    refine RX_guard_nbool rfl (fun hc5 => ?_) (fun hc5 => ?_)
    · rw [if_neg (ne_true_of_eq_false hc5)] at h
      simp only [go_sem, seval, hc5]
      refine hZ _ (pp (hJ1 _ true ?_ h))
      refine weak_roots ?_ ?_ <;> repeat' first | exact xn | exact rn | refine xc ?_ ?_ | refine rc ?_ ?_ ?_ | rfl
    rw [if_pos hc5] at h
    obtain ⟨r12, hr6, h⟩ := Option.bind_eq_some_iff.1 h
    simp only [go_sem, seval, hc5, hr6]
    refine hZ _ (pp (hJ1 _ (!r12) ?_ h))
    refine weak_roots ?_ ?_ <;> repeat' first | exact xn | exact rn | refine xc ?_ ?_ | refine rc ?_ ?_ ?_ | rfl
  intro c9 h
  unfold locks_Acquire_J1 at h
  refine Wk_cond_bool rfl (fun hc7 => ?_) (fun hc7 => ?_)
  · rw [if_pos hc7] at h
    refine Wk_seq (Wk_regionZ fun Z hZ => ?_)
    simp only [go_sem, seval, hc7]
    refine hZ _ (pp (Wk_ret (pp ?_)))
    cases h
    simp only [go_sem, seval]
    exact ⟨_, rfl, RokI.h⟩
  rw [if_neg (ne_true_of_eq_false hc7)] at h
  refine Wk_skip (pp ?_)
  unfold locks_Acquire_J2 at h
  refine Wk_seq ?_
  obtain ⟨r13, hr8, h⟩ := Option.bind_eq_some_iff.1 h
  refine Wk_regionZ fun Z hZ => ?_
  simp only [go_sem, seval, hc7, hr8]
  refine hZ _ (pp (Wk_seq (Wk_seq (Wk_regionZ fun Z hZ => ?_))))
  simp only [go_sem, seval]
  refine hZ _ (pp (Wk_cond_nbool rfl (fun hc9 => ?_) (fun hc9 => ?_)))
  · rw [if_neg (ne_true_of_eq_false hc9)] at h
    refine Wk_seq (Wk_seq (Wk_regionZ fun Z hZ => ?_))
    simp only [go_sem, seval, hc9]
    refine hZ _ (pp (Wk_cond_dec rfl (fun hc10 => ?_) (fun hc10 => ?_)))
    · have hc10d := decide_eq_true hc10
      rw [if_pos hc10] at h
      refine Wk_seq (Wk_regionZ fun Z hZ => ?_)
      simp only [go_sem, seval, hc10d]
      refine hZ _ (pp (Wk_ret (pp ?_)))
      cases h
      simp only [go_sem, seval]
      exact ⟨_, rfl, RokI.h⟩
    have hc10d := decide_eq_false hc10
    rw [if_neg hc10] at h
    refine Wk_skip (pp (Wk_seq ?_))
    obtain ⟨r14, hr11, h⟩ := Option.bind_eq_some_iff.1 h
    obtain ⟨r15, hr12, h⟩ := Option.bind_eq_some_iff.1 h
    refine Wk_regionD fun Z hZ => ?_
    simp only [go_sem, seval, hc10d, hr11, hr12]
    repeat with_reducible refine and_bar (by kernel_rfl) ?_
    refine hZ _ (by kernel_rfl) (pp (Wk_ret (pp ?_)))
    cases h
    simp only [go_sem, seval]
    exact ⟨_, rfl, RokI.h⟩
  rw [if_pos hc9] at h
  refine Wk_skip (pp (Wk_seq ?_))
  obtain ⟨x16, hb13, hx14, h⟩ := gx_some h
  obtain ⟨r17, hr15, h⟩ := Option.bind_eq_some_iff.1 h
  refine Wk_regionZ fun Z hZ => ?_
  simp only [go_sem, seval, hc9, hb13, hx14, hr15]
  refine hZ _ (pp (Wk_seq (Wk_block (Wk_seq (Wk_regionZ fun Z hZ => ?_)))))
  simp only [go_sem, seval, hb13, hx14]
  refine hZ _ (pp (Wk_cond_dec rfl (fun hc16 => ?_) (fun hc16 => ?_)))
  · have hc16d := decide_eq_true hc16
    rw [if_pos hc16] at h
    refine Wk_seq ?_
    obtain ⟨r18, hr17, h⟩ := Option.bind_eq_some_iff.1 h
    refine Wk_regionZ fun Z hZ => ?_
    simp only [go_sem, seval, hc16d, hr17]
    refine hZ _ (pp (Wk_ret (pp ?_)))
    cases h
    simp only [go_sem, seval]
    exact ⟨_, rfl, RokI.h⟩
  have hc16d := decide_eq_false hc16
  rw [if_neg hc16] at h
  refine Wk_seq (Wk_regionZ fun Z hZ => ?_)
  simp only [go_sem, seval, hb13, hx14, hc16d]
  refine hZ _ (pp (Wk_cond_dec rfl (fun hc18 => ?_) (fun hc18 => ?_)))
  · have hc18d := decide_eq_true hc18
    rw [if_pos hc18] at h
    refine Wk_seq ?_
    obtain ⟨r19, hr19, h⟩ := Option.bind_eq_some_iff.1 h
    refine Wk_regionZ fun Z hZ => ?_
    simp only [go_sem, seval, hc18d, hr19]
    refine hZ _ (pp (Wk_ret (pp ?_)))
    cases h
    simp only [go_sem, seval]
    exact ⟨_, rfl, RokI.h⟩
  have hc18d := decide_eq_false hc18
  rw [if_neg hc18] at h
  refine Wk_seq (Wk_regionZ fun Z hZ => ?_)
  simp only [go_sem, seval, hc18d]
  refine hZ _ (pp (Wk_cond_bool rfl (fun hc20 => ?_) (fun hc20 => ?_)))
  · rw [if_pos hc20] at h
    refine Wk_seq ?_
    obtain ⟨r20, hr21, h⟩ := Option.bind_eq_some_iff.1 h
    refine Wk_regionZ fun Z hZ => ?_
    simp only [go_sem, seval, hc20, hr21]
    refine hZ _ (pp (Wk_ret (pp ?_)))
    cases h
    simp only [go_sem, seval]
    exact ⟨_, rfl, RokI.h⟩
  rw [if_neg (ne_true_of_eq_false hc20)] at h
  refine Wk_seq (Wk_regionZ fun Z hZ => ?_)
  simp only [go_sem, seval, hb13, hx14, hc20]
  refine hZ _ (pp (Wk_cond_dec rfl (fun hc22 => ?_) (fun hc22 => ?_)))
  · have hc22d := decide_eq_true hc22
    rw [if_pos hc22] at h
    refine Wk_seq (Wk_regionZ fun Z hZ => ?_)
    simp only [go_sem, seval, hc22d]
    refine hZ _ (pp (Wk_ret (pp ?_)))
    cases h
    simp only [go_sem, seval]
    exact ⟨_, rfl, RokI.h⟩
  have hc22d := decide_eq_false hc22
  rw [if_neg hc22] at h
  refine Wk_skip (pp (Wk_seq ?_))
  obtain ⟨r21, hr23, h⟩ := Option.bind_eq_some_iff.1 h
  refine Wk_regionZ fun Z hZ => ?_
  simp only [go_sem, seval, hc22d, hr23]
  refine hZ _ (pp (Wk_seq ?_))
  obtain ⟨x22, hb24, hx25, h⟩ := gx_some h
  obtain ⟨r23, hr26, h⟩ := Option.bind_eq_some_iff.1 h
  refine Wk_regionZ fun Z hZ => ?_
  simp only [go_sem, seval, hb13, hb24, hx25, over_of (row := Lock.rowD) (rx := [.val (.string x22.Actor.Type_), .val (.string x22.Actor.Key), .val (.int .i64 x22.Owner), .sl true none 1 none (x22.Waiters.map (rowI .i64))]) hx25 rfl rfl, over_get (row := Lock.rowD) _ hx25, over_mod (row := Lock.rowD) hx25 rfl, hr26]
  refine hZ _ (pp (Wk_seq (Wk_regionZ fun Z hZ => ?_)))
  simp only [go_sem, seval]
  refine hZ _ (pp (Wk_ret (pp ?_)))
  cases h
  simp only [go_sem, seval]
  exact ⟨_, rfl, RokI.h⟩
def fs_locks_Acquire (N : Nat) : FnS := ⟨[], false, fn3 (decL 4 Lock.dec) Ref.decA (decI .i64) fun q0 q1 q2 => (locks_Acquire N q0 q1 q2).map fun r => .tup [.sl false none 4 none (r.1.map Lock.row), .val (.int .i64 r.2.1), .val (.int .i64 r.2.2)], false⟩
attribute [go_sem] fs_locks_Acquire
theorem fs_locks_Acquire_ok (N : Nat) : FSOk Try.prog 9 (fs_locks_Acquire N) := ok3 (fun q0 q1 q2 r h => by
  obtain ⟨r', hr, rfl⟩ := Option.map_eq_some_iff.1 h
  exact (w_locks_Acquire N q0 q1 q2 r' hr).res (by (try simp only [go_sem]); exact RokI.h)) (fun h => decL_le Lock.dec_le h) (Ref.decA_le) (decI_le)

def fso_locks_Acquire (N : Nat) : FnS := ⟨[], false, fn3 (decL 4 Lock.dec) Ref.decA (decI .i64) fun q0 q1 q2 => (locks_Acquire N q0 q1 q2).map fun r => .tup [.sl true none 4 none (r.1.map Lock.row), .val (.int .i64 r.2.1), .val (.int .i64 r.2.2)], false⟩
attribute [go_sem] fso_locks_Acquire
theorem fso_locks_Acquire_ok (N : Nat) : FSOk Try.prog 9 (fso_locks_Acquire N) := ok3 (fun q0 q1 q2 r h => by
  obtain ⟨r', hr, rfl⟩ := Option.map_eq_some_iff.1 h
  exact w_locks_Acquire N q0 q1 q2 r' hr) (fun h => decL_le Lock.dec_le h) (Ref.decA_le) (decI_le)


noncomputable def G_locks_Owner (N d f : Nat) : Option FnS := glist [(8, 21, fs_locks_Valid N), (13, 25, fs_locks_find N)] d f
attribute [go_sem] G_locks_Owner
theorem w_locks_Owner (N : Nat) (a0 : (List Lock)) (a1 : Ref) (r : Int) (h : locks_Owner N a0 a1 = some r) : Con Try.prog 22 [] true [.sl false none 4 none (a0.map Lock.row), .agg [.val (.string a1.Type_), .val (.string a1.Key)]] (.val (.int .i64 r)) := by
  refine fun_ok4 (G := (G_locks_Owner N)) Try.func22 rfl (by decide) (by kernel_rfl) (gc 8 (fs_locks_Valid_ok N) (gc 13 (fs_locks_find_ok N) gn)) [] mix (Nat.le_of_ble_eq_true rfl) ?_
  simp only [Try.f22]
  unfold locks_Owner at h
  refine Wk_seq (Wk_regionZ fun Z hZ => ?_)
  simp only [go_sem, seval]
  refine hZ _ (pp (Wk_seq (Wk_seq ?_)))
  obtain ⟨r1, hr1, h⟩ := Option.bind_eq_some_iff.1 h
  refine Wk_regionZ fun Z hZ => ?_
  simp only [go_sem, seval, hr1]
  refine hZ _ (pp (Wk_cond_nbool rfl (fun hc2 => ?_) (fun hc2 => ?_)))
  · rw [if_neg (ne_true_of_eq_false hc2)] at h
    refine Wk_seq (Wk_regionZ fun Z hZ => ?_)
    simp only [go_sem, seval, hc2]
    refine hZ _ (pp (Wk_ret (pp ?_)))
    cases h
    simp only [go_sem, seval]
    exact ⟨_, rfl, RokI.h, PureI.h⟩
  rw [if_pos hc2] at h
  refine Wk_skip (pp (Wk_seq (Wk_seq ?_)))
  obtain ⟨r2, hr3, h⟩ := Option.bind_eq_some_iff.1 h
  refine Wk_regionZ fun Z hZ => ?_
  simp only [go_sem, seval, hc2, hr3]
  refine hZ _ (pp (Wk_seq (Wk_regionZ fun Z hZ => ?_)))
  simp only [go_sem, seval]
  refine hZ _ (pp (Wk_cond_bool rfl (fun hc4 => ?_) (fun hc4 => ?_)))
  · rw [if_pos hc4] at h
    refine Wk_seq ?_
    obtain ⟨x3, hb5, hx6, h⟩ := gx_some h
    refine Wk_regionZ fun Z hZ => ?_
    simp only [go_sem, seval, hc4, hb5, hx6]
    refine hZ _ (pp (Wk_ret (pp ?_)))
    cases h
    simp only [go_sem, seval]
    exact ⟨_, rfl, RokI.h, PureI.h⟩
  rw [if_neg (ne_true_of_eq_false hc4)] at h
  refine Wk_skip (pp (Wk_seq (Wk_regionZ fun Z hZ => ?_)))
  simp only [go_sem, seval, hc4]
  refine hZ _ (pp (Wk_ret (pp ?_)))
  cases h
  simp only [go_sem, seval]
  exact ⟨_, rfl, RokI.h, PureI.h⟩
def fs_locks_Owner (N : Nat) : FnS := ⟨[], true, fn2 (decL 4 Lock.dec) Ref.decA fun q0 q1 => (locks_Owner N q0 q1).map fun r => .val (.int .i64 r), false⟩
attribute [go_sem] fs_locks_Owner
theorem fs_locks_Owner_ok (N : Nat) : FSOk Try.prog 22 (fs_locks_Owner N) := ok2 (fun q0 q1 r h => by
  obtain ⟨r', hr, rfl⟩ := Option.map_eq_some_iff.1 h
  exact w_locks_Owner N q0 q1 r' hr) (fun h => decL_le Lock.dec_le h) (Ref.decA_le)


noncomputable def E_slices_Delete_Lock : Env := { T := tiOf Try.prog, G := fun d f => none }
theorem E_slices_Delete_Lock_T : E_slices_Delete_Lock.T = tiOf Try.prog := rfl
theorem E_slices_Delete_Lock_F (d : Nat) : E_slices_Delete_Lock.F d = none := rfl
theorem E_slices_Delete_Lock_ok : GOk Try.prog { T := tiOf Try.prog, G := E_slices_Delete_Lock.G } := by
  refine ⟨?_, fun _ _ _ h => by cases h⟩
  intro d f fs hfs
  cases hfs
theorem fo_slices_Delete_Lock : FunOk Try.prog 59 Try.f59 Try.f59.body.get! := ⟨Try.func59, rfl, by decide, by kernel_rfl⟩
set_option maxHeartbeats 4000000 in
theorem w1_slices_Delete_Lock {α : Type} (row : α → List C) (ok : RowOk row) (l : List α) (i j : Nat) (r : List α) (hr : r = l.take i ++ l.drop j) (hij : i ≤ j) (hj : j ≤ l.length) :
    Con Try.prog 59 [true, false, false] false [.sl true none 4 none (l.map row), .val (.int .i64 i), .val (.int .i64 j)] (.sl true none 4 none (r.map row)) := by
  refine fun_own (E := E_slices_Delete_Lock) (tiOf_ok Try.prog _) E_slices_Delete_Lock_ok mix fo_slices_Delete_Lock (Nat.le_of_ble_eq_true rfl) ?_
  intro _
  rw [entry_tab (by simp)]
  rw [show entryF [true, false, false] [C.sl true none 4 none (l.map row), C.val (.int .i64 i), C.val (.int .i64 j)] = (updT (updT (updT deadT 0 (.pal 0 [] 0 l.length none)) 1 (.val (.int .i64 i))) 2 (.val (.int .i64 j))) from by funext t; match t with | 0 => simp [entryF, entryTmp, viewD, updT] | 1 => rfl | 2 => rfl | t + 3 => rfl]
  rw [show R0 [true, false, false] [C.sl true none 4 none (l.map row), C.val (.int .i64 i), C.val (.int .i64 j)] = upd RZ 0 (C.sl true none 4 none (l.map row)) from by funext t; match t with | 0 => rfl | 1 => rfl | 2 => rfl | t + 3 => rfl]
  apply W_start
  simp only [Try.f59, Option.get!]
  have hi1 : (i : Int) ≤ (j : Int) := by omega
  have hj1 : (j : Int) ≤ (l.length : Int) := by omega
  have hj0 : i ≤ l.length := by omega
  simp only [go_sem, seval, E_slices_Delete_Lock_T, E_slices_Delete_Lock_F, hi1, hj1, hij, hj, hj0, Nat.le_refl, RowOk.frzRows ok, RowOk.all ok, RowOk.allPlain ok, RowOk.allD ok, rewritten, RX_clear, altX, roomS, roomC, reslice2X, clearX, mem_none_le, mem_some_le, Option.map_some, Nat.zero_le, Nat.sub_zero, deepV, List.isEmpty_nil, decide_not, List.length_replicate]
  refine W_cond_dec rfl (fun hc => ?_) (fun hc => ?_)
  · have e : i = j := by omega
    subst e
    simp only [go_sem, seval, E_slices_Delete_Lock_T, E_slices_Delete_Lock_F, hi1, hj1, hij, hj, hj0, Nat.le_refl, RowOk.frzRows ok, RowOk.all ok, RowOk.allPlain ok, RowOk.allD ok, rewritten, RX_clear, altX, roomS, roomC, reslice2X, clearX, mem_none_le, mem_some_le, Option.map_some, Nat.zero_le, Nat.sub_zero, deepV, List.isEmpty_nil, decide_not, List.length_replicate, FinO_ret, FinO_normal]
    refine fin_own ok ?_
    rw [hr]
    simp [List.take_of_length_le]
  · have hc1 : decide ((i : Int) = (j : Int)) = false := decide_eq_false hc
    have hlt : i < j := by omega
    have hlt2 : i < l.length := by omega
    have hm3 : (l.drop j).take (l.length - j) = l.drop j := List.take_of_length_le (by simp)
    have hd : (l.drop j).length = l.length - j := by simp
    have hle : i + (l.length - j) ≤ l.length := by omega
    have hnle : ¬ l.length ≤ i + (l.length - j) := by omega
    obtain ⟨A, hA⟩ : ∃ A, setRows (List.map row l) i (List.map row (List.drop j l)) = A := ⟨_, rfl⟩
    have hAp : plainL' A := by rw [← hA]; exact plainL'_set (plainL'_map ok _) (plainL'_map ok _)
    have hAl : A.length = l.length := by rw [← hA]; simp [setRows]; omega
    obtain ⟨B, hB⟩ : ∃ B, setRows A (i + (l.length - j)) (List.replicate (l.length - (i + (l.length - j))) [C.val (Value.string ⟨#[]⟩), C.val (Value.string ⟨#[]⟩), C.val (Value.int .i64 0), C.val (Value.slice none 0 0)]) = B := ⟨_, rfl⟩
    have hBp : plainL' B := by rw [← hB]; exact plainL'_set hAp (plainL'_vals _ [Value.string ⟨#[]⟩, Value.string ⟨#[]⟩, Value.int .i64 0, Value.slice none 0 0] (by simp [Value.oneCell']))
    have hBe : B.take (i + (l.length - j)) = r.map row := by
      have := del_rows (L := l.map row) (List.replicate (l.length - (i + (l.length - j))) [C.val (Value.string ⟨#[]⟩), C.val (Value.string ⟨#[]⟩), C.val (Value.int .i64 0), C.val (Value.slice none 0 0)]) hij (by simpa using hj)
      rw [List.length_map, ← List.map_drop, hA, hB] at this
      rw [this, hr]; simp
    simp only [go_sem, seval, E_slices_Delete_Lock_T, E_slices_Delete_Lock_F, hi1, hj1, hij, hj, hj0, Nat.le_refl, RowOk.frzRows ok, RowOk.all ok, RowOk.allPlain ok, RowOk.allD ok, rewritten, RX_clear, altX, roomS, roomC, reslice2X, clearX, mem_none_le, mem_some_le, Option.map_some, Nat.zero_le, Nat.sub_zero, deepV, List.isEmpty_nil, decide_not, List.length_replicate, hc1, hlt, hlt2, hm3, hd, hle, hnle, hA, hAl, hAp.1, hAp.2]
    repeat' ((with_reducible refine and_bar ?_ ?_); kernel_rfl)
    simp only [go_sem, seval, E_slices_Delete_Lock_T, E_slices_Delete_Lock_F, hi1, hj1, hij, hj, hj0, Nat.le_refl, RowOk.frzRows ok, RowOk.all ok, RowOk.allPlain ok, RowOk.allD ok, rewritten, RX_clear, altX, roomS, roomC, reslice2X, clearX, mem_none_le, mem_some_le, Option.map_some, Nat.zero_le, Nat.sub_zero, deepV, List.isEmpty_nil, decide_not, List.length_replicate, hc1, hlt, hlt2, hm3, hd, hle, hnle, hA, hAl, hAp.1, hAp.2, hB, hBp.1, hBp.2, FinO_ret, FinO_normal]
    repeat' ((with_reducible refine and_bar ?_ ?_); kernel_rfl)
    try simp only [go_sem, seval, E_slices_Delete_Lock_T, E_slices_Delete_Lock_F, hi1, hj1, hij, hj, hj0, Nat.le_refl, RowOk.frzRows ok, RowOk.all ok, RowOk.allPlain ok, RowOk.allD ok, rewritten, RX_clear, altX, roomS, roomC, reslice2X, clearX, mem_none_le, mem_some_le, Option.map_some, Nat.zero_le, Nat.sub_zero, deepV, List.isEmpty_nil, decide_not, List.length_replicate, FinO_ret, FinO_normal, hBp.1, hBp.2]
    refine fin_own ok ?_
    rw [← hBe]
theorem w_slices_Delete_Lock (N : Nat) (a0 : List Lock) (a1 : Int) (a2 : Int) (r : List Lock) (h : slices_Delete_Lock N a0 a1 a2 = some r) :
    Con Try.prog 59 [true, false, false] false [.sl true none 4 none (a0.map Lock.row), .val (.int .i64 a1), .val (.int .i64 a2)] (.sl true none 4 none (r.map Lock.row)) := by
  unfold slices_Delete_Lock at h
  obtain ⟨n, m, rfl, rfl, h1, h2, h3⟩ := delM_some h
  exact w1_slices_Delete_Lock Lock.row Lock.row_ok a0 n m r (Option.some.inj h3).symm h1 h2
def fso_slices_Delete_Lock (N : Nat) : FnS := { own := [true, false, false], pure := false, fn := fun cs => match cs with
  | [c0, c1, c2] => (decO 4 Lock.dec c0).bind fun q0 => (decI .i64 c1).bind fun q1 => (decI .i64 c2).bind fun q2 => (slices_Delete_Lock N q0 q1 q2).map fun r => .sl true none 4 none (r.map Lock.row)
  | _ => none }
theorem fso_slices_Delete_Lock_own (N : Nat) : (fso_slices_Delete_Lock N).own = [true, false, false] := rfl
theorem fso_slices_Delete_Lock_pure (N : Nat) : (fso_slices_Delete_Lock N).pure = false := rfl
theorem fso_slices_Delete_Lock_peek (N : Nat) : (fso_slices_Delete_Lock N).peek = false := rfl
attribute [go_sem] fso_slices_Delete_Lock fso_slices_Delete_Lock_own fso_slices_Delete_Lock_pure fso_slices_Delete_Lock_peek
theorem fso_slices_Delete_Lock_ok (N : Nat) : FSOk Try.prog 59 (fso_slices_Delete_Lock N) := by
  refine ⟨fun cs r h => ?_, fun h => by cases h⟩
  simp only [fso_slices_Delete_Lock] at h
  split at h
  · simp only [Option.bind_eq_some_iff, Option.map_eq_some_iff] at h
    obtain ⟨q0, h0, q1, h1, q2, h2, r', hr, rfl⟩ := h
    exact (w_slices_Delete_Lock N q0 q1 q2 r' hr).argsO rfl (argsO_own (decO_ok Lock.row_ok Lock.dec_le h0) (argsO_le (decI_le h1) (argsO_le (decI_le h2) argsO_nil)))
  · cases h


noncomputable def G_locks_pass (N d f : Nat) : Option FnS := glist [(20, 59, fso_slices_Delete_Lock N)] d f
attribute [go_sem] G_locks_pass
theorem w_locks_pass (N : Nat) (a0 : (List Lock)) (a1 : Int) (r : (List Lock) × Int) (h : locks_pass N a0 a1 = some r) : Con Try.prog 37 [true, false] false [.sl true none 4 none (a0.map Lock.row), .val (.int .i64 a1)] (.tup [.sl true none 4 none (r.1.map Lock.row), .val (.int .i64 r.2)]) := by
  refine fun_own5 (G := (G_locks_pass N)) (L := noL) Try.func37 rfl (by decide) (by kernel_rfl) (gc 20 (fso_slices_Delete_Lock_ok N) gn) (fun _ _ _ h => by cases h) [] mix (Nat.le_of_ble_eq_true rfl) ?_
  rw [show entryF [true, false] [.sl true none 4 none (a0.map Lock.row), .val (.int .i64 a1)] = (updT (updT deadT 0 (.pal 0 [] 0 a0.length none)) 1 (.val (.int .i64 a1))) from by funext t; match t with | 0 => simp [entryF, entryTmp, viewD, updT] | 1 => rfl | t + 2 => rfl]
  rw [show R0 [true, false] [.sl true none 4 none (a0.map Lock.row), .val (.int .i64 a1)] = upd RZ 0 (.sl true none 4 none (a0.map Lock.row)) from by funext t; match t with | 0 => rfl | 1 => rfl | t + 2 => rfl]
  simp only [Try.f37]
  unfold locks_pass at h
  refine Wk_seq (Wk_regionZ fun Z hZ => ?_)
  simp (config := { maxSteps := 4000000 }) only [go_sem, seval]
  refine hZ _ (pp (Wk_seq ?_))
  obtain ⟨x1, hb1, hx2, h⟩ := gx_some h
  refine Wk_regionZ fun Z hZ => ?_
  simp (config := { maxSteps := 4000000 }) only [go_sem, seval, hb1, hx2]
  refine hZ _ (pp (Wk_seq (Wk_seq (Wk_regionZ fun Z hZ => ?_))))
  simp (config := { maxSteps := 4000000 }) only [go_sem, seval]
  refine hZ _ (pp (Wk_cond_dec rfl (fun hc3 => ?_) (fun hc3 => ?_)))
  · have hc3d := decide_eq_true hc3
    first | rw [if_pos hc3] at h | rw [if_pos hc3d] at h | simp only [hc3d, Bool.not_true, Bool.not_false, Bool.false_eq_true, if_true, if_false] at h
    refine Wk_seq ?_
    obtain ⟨r2, hr4, h⟩ := Option.bind_eq_some_iff.1 h
    refine Wk_regionZ fun Z hZ => ?_
    simp (config := { maxSteps := 4000000 }) only [go_sem, seval, hc3d, hr4]
    refine hZ _ (pp (Wk_ret (pp ?_)))
    cases h
    simp (config := { maxSteps := 4000000 }) only [go_sem, seval, FinO_ret]
    exact ⟨_, rfl, RokI.h, KeepI.h⟩
  have hc3d := decide_eq_false hc3
  first | rw [if_neg hc3] at h | rw [if_neg (ne_true_of_eq_false hc3d)] at h | simp only [hc3d, Bool.not_true, Bool.not_false, Bool.false_eq_true, if_true, if_false] at h
  refine Wk_skip (pp (Wk_seq ?_))
  obtain ⟨x3, hb5, hx6, h⟩ := gx_some h
  refine Wk_regionZ fun Z hZ => ?_
  simp (config := { maxSteps := 4000000 }) only [go_sem, seval, hb1, hx2, hc3d, hb5, hx6]
  refine hZ _ (pp (Wk_seq ?_))
  obtain ⟨hs7, ht8, h⟩ := slt_some h
  try simp only [Int.toNat_natCast] at hs7 ht8 h
  have hx10 := set_get (y := (Lock.mk x1.Actor x3 x1.Waiters)) hx2
  refine Wk_regionH fun Y hY => ?_
  refine RX2_s rfl rfl fun Z hZ => ?_
  simp (config := { maxSteps := 4000000 }) only [go_sem, seval]
  repeat with_reducible refine and_bar (by kernel_rfl) ?_
  refine hZ _ ?_
  refine RX2_s rfl rfl fun Z hZ => ?_
  simp (config := { maxSteps := 4000000 }) only [go_sem, seval]
  repeat with_reducible refine and_bar (by kernel_rfl) ?_
  refine hZ _ ?_
  refine RX2_s rfl rfl fun Z hZ => ?_
  simp (config := { maxSteps := 4000000 }) only [go_sem, seval]
  repeat with_reducible refine and_bar (by kernel_rfl) ?_
  refine hZ _ ?_
  refine RX2_s rfl rfl fun Z hZ => ?_
  simp (config := { maxSteps := 4000000 }) only [go_sem, seval]
  repeat with_reducible refine and_bar (by kernel_rfl) ?_
  refine hZ _ ?_
  refine RX2_s rfl rfl fun Z hZ => ?_
  simp (config := { maxSteps := 4000000 }) only [go_sem, seval]
  repeat with_reducible refine and_bar (by kernel_rfl) ?_
  refine hZ _ ?_
  refine RX2_s rfl rfl fun Z hZ => ?_
  simp (config := { maxSteps := 4000000 }) only [go_sem, seval]
  repeat with_reducible refine and_bar (by kernel_rfl) ?_
  refine hZ _ ?_
  refine RX2_s rfl rfl fun Z hZ => ?_
  simp (config := { maxSteps := 4000000 }) only [go_sem, seval]
  repeat with_reducible refine and_bar (by kernel_rfl) ?_
  refine hZ _ ?_
  refine RX2_s rfl rfl fun Z hZ => ?_
  simp (config := { maxSteps := 4000000 }) only [go_sem, seval, hb1]
  repeat with_reducible refine and_bar (by kernel_rfl) ?_
  refine hZ _ ?_
  refine RX2_s rfl rfl fun Z hZ => ?_
  simp (config := { maxSteps := 4000000 }) only [go_sem, seval]
  repeat with_reducible refine and_bar (by kernel_rfl) ?_
  refine hZ _ ?_
  refine RX2_s rfl rfl fun Z hZ => ?_
  simp (config := { maxSteps := 4000000 }) only [go_sem, seval, hx2, Nat.le_refl]
  repeat with_reducible refine and_bar (by kernel_rfl) ?_
  refine hZ _ ?_
  refine RX2_s rfl rfl fun Z hZ => ?_
  simp (config := { maxSteps := 4000000 }) only [go_sem, seval]
  repeat with_reducible refine and_bar (by kernel_rfl) ?_
  refine hZ _ ?_
  refine RX2_s rfl rfl fun Z hZ => ?_
  simp (config := { maxSteps := 4000000 }) only [go_sem, seval]
  repeat with_reducible refine and_bar (by kernel_rfl) ?_
  refine hZ _ ?_
  refine RX2_s rfl rfl fun Z hZ => ?_
  simp (config := { maxSteps := 4000000 }) only [go_sem, seval]
  repeat with_reducible refine and_bar (by kernel_rfl) ?_
  refine hZ _ ?_
  refine RX2_s rfl rfl fun Z hZ => ?_
  simp (config := { maxSteps := 4000000 }) only [go_sem, seval]
  repeat with_reducible refine and_bar (by kernel_rfl) ?_
  refine hZ _ ?_
  refine RX2_s rfl rfl fun Z hZ => ?_
  simp (config := { maxSteps := 4000000 }) only [go_sem, seval, hb5, hs7, Nat.sub_zero, Nat.zero_le, Nat.le_refl]
  repeat with_reducible refine and_bar (by kernel_rfl) ?_
  refine hZ _ ?_
  refine RX2_s rfl rfl fun Z hZ => ?_
  simp (config := { maxSteps := 4000000 }) only [go_sem, seval, hb1]
  repeat with_reducible refine and_bar (by kernel_rfl) ?_
  refine hZ _ ?_
  refine RX2_s rfl rfl fun Z hZ => ?_
  simp (config := { maxSteps := 4000000 }) only [go_sem, seval]
  repeat with_reducible refine and_bar (by kernel_rfl) ?_
  refine hZ _ ?_
  refine RX2_w fun Z hZ => ?_
  simp (config := { maxSteps := 4000000 }) only [go_sem, seval, hx2, map_modify2 (row := Lock.row) (y := (Lock.mk x1.Actor x3 x1.Waiters)) (rx := [.val (.string x1.Actor.Type_), .val (.string x1.Actor.Key), .val (.int .i64 x1.Owner), .sl false none 1 none (x1.Waiters.map (rowI .i64))]) (ry := [.val (.string x1.Actor.Type_), .val (.string x1.Actor.Key), .val (.int .i64 x3), .sl false none 1 none (x1.Waiters.map (rowI .i64))]) hx2 rfl rfl]
  repeat with_reducible refine and_bar (by kernel_rfl) ?_
  refine hZ _ ?_
  refine RX2_s rfl rfl fun Z hZ => ?_
  simp (config := { maxSteps := 4000000 }) only [go_sem, seval, hb1]
  repeat with_reducible refine and_bar (by kernel_rfl) ?_
  refine hZ _ ?_
  refine RX2_s rfl rfl fun Z hZ => ?_
  simp (config := { maxSteps := 4000000 }) only [go_sem, seval]
  repeat with_reducible refine and_bar (by kernel_rfl) ?_
  refine hZ _ ?_
  refine RX2_w fun Z hZ => ?_
  simp (config := { maxSteps := 4000000 }) only [go_sem, seval, hx10, over_of (row := Lock.row) (rx := [.val (.string x1.Actor.Type_), .val (.string x1.Actor.Key), .val (.int .i64 x3), .sl false none 1 none (x1.Waiters.map (rowI .i64))]) hx10 rfl rfl]
  repeat with_reducible refine and_bar (by kernel_rfl) ?_
  refine hZ _ ?_
  refine RX2_end (by kernel_rfl) (hY _ (pp (Wk_seq (Wk_regionZ fun Z hZ => ?_))))
  simp (config := { maxSteps := 4000000 }) only [go_sem, seval]
  refine hZ _ (pp (Wk_ret (pp ?_)))
  cases h
  simp (config := { maxSteps := 4000000 }) only [go_sem, seval, FinO_ret]
  exact ⟨_, rfl, RokI.h, KeepI.h⟩
def fso_locks_pass (N : Nat) : FnS := { own := [true, false], pure := false, fn := fun cs => match cs with
  | [c0, c1] => ((decO 4 Lock.dec) c0).bind fun q0 => ((decI .i64) c1).bind fun q1 => (locks_pass N q0 q1).map fun r => .tup [.sl true none 4 none (r.1.map Lock.row), .val (.int .i64 r.2)]
  | _ => none }
theorem fso_locks_pass_own (N : Nat) : (fso_locks_pass N).own = [true, false] := rfl
theorem fso_locks_pass_pure (N : Nat) : (fso_locks_pass N).pure = false := rfl
theorem fso_locks_pass_peek (N : Nat) : (fso_locks_pass N).peek = false := rfl
attribute [go_sem] fso_locks_pass fso_locks_pass_own fso_locks_pass_pure fso_locks_pass_peek
theorem fso_locks_pass_ok (N : Nat) : FSOk Try.prog 37 (fso_locks_pass N) := by
  refine ⟨fun cs r h => ?_, fun h => by cases h⟩
  simp only [fso_locks_pass] at h
  split at h
  · simp only [Option.bind_eq_some_iff, Option.map_eq_some_iff] at h
    obtain ⟨q0, h0, q1, h1, r', hr, rfl⟩ := h
    exact (w_locks_pass N q0 q1 r' hr).argsO rfl (argsO_own (decO_ok Lock.row_ok Lock.dec_le h0) (argsO_le (decI_le h1) (argsO_nil)))
  · cases h


noncomputable def G_locks_Release (N d f : Nat) : Option FnS := glist [(12, 21, fs_locks_Valid N), (16, 23, fs_locks_validActor N), (21, 24, fs_locks_validTxn N), (27, 25, fs_locks_find N), (43, 27, fso_locks_clone N), (45, 37, fso_locks_pass N)] d f
attribute [go_sem] G_locks_Release
theorem w_locks_Release (N : Nat) (a0 : (List Lock)) (a1 : Ref) (a2 : Int) (r : (List Lock) × Int × Int) (h : locks_Release N a0 a1 a2 = some r) : Con Try.prog 12 [] false [.sl false none 4 none (a0.map Lock.row), .agg [.val (.string a1.Type_), .val (.string a1.Key)], .val (.int .i64 a2)] (.tup [.sl true none 4 none (r.1.map Lock.row), .val (.int .i64 r.2.1), .val (.int .i64 r.2.2)]) := by
  refine fun_ok4 (G := (G_locks_Release N)) Try.func12 rfl (by decide) (by kernel_rfl) (gc 12 (fs_locks_Valid_ok N) (gc 16 (fs_locks_validActor_ok N) (gc 21 (fs_locks_validTxn_ok N) (gc 27 (fs_locks_find_ok N) (gc 43 (fso_locks_clone_ok N) (gc 45 (fso_locks_pass_ok N) gn)))))) [] mix (Nat.le_of_ble_eq_true rfl) ?_
  simp only [Try.f12]
  unfold locks_Release at h
  refine Wk_seq (Wk_regionZ fun Z hZ => ?_)
  simp only [go_sem, seval]
  refine hZ _ (pp (Wk_seq ?_))
  apply Wk_join1 (fun (c9 : Bool) => ⟨tab 50 (updT (updT (updT (updT deadT 0 (.sl false none 4 none (a0.map Lock.row))) 2 (.val (.int .i64 a2))) 4 (.pref 4 [] 0 0)) 23 (.val (.bool c9))), (upd RZ 4 (.sl true none 2 (some 1) [[.val (.string a1.Type_), .val (.string a1.Key)]]))⟩)
  · intro hJ1
    obtain ⟨r10, hr2, h⟩ := Option.bind_eq_some_iff.1 h
    refine Wk_regionZ fun Z hZ => ?_
    simp only [go_sem, seval, hr2]
    refine RX_guard_nbool rfl (fun hc3 => ?_) (fun hc3 => ?_)
    · rw [if_neg (ne_true_of_eq_false hc3)] at h
      simp only [go_sem, seval, hc3]
      refine hZ _ (pp (hJ1 _ true ?_ h))
      refine weak_roots ?_ ?_ <;> repeat' first | exact xn | exact rn | refine xc ?_ ?_ | refine rc ?_ ?_ ?_ | rfl
    rw [if_pos hc3] at h
    obtain ⟨r11, hr4, h⟩ := Option.bind_eq_some_iff.1 h
    simp only [go_sem, seval, hc3, hr4]
    refine RX_guard_nbool rfl (fun hc5 => ?_) (fun hc5 => ?_)
    · rw [if_neg (ne_true_of_eq_false hc5)] at h
      simp only [go_sem, seval, hc5]
      refine hZ _ (pp (hJ1 _ true ?_ h))
      refine weak_roots ?_ ?_ <;> repeat' first | exact xn | exact rn | refine xc ?_ ?_ | refine rc ?_ ?_ ?_ | rfl
    rw [if_pos hc5] at h
    obtain ⟨r12, hr6, h⟩ := Option.bind_eq_some_iff.1 h
    simp only [go_sem, seval, hc5, hr6]
    refine hZ _ (pp (hJ1 _ (!r12) ?_ h))
    refine weak_roots ?_ ?_ <;> repeat' first | exact xn | exact rn | refine xc ?_ ?_ | refine rc ?_ ?_ ?_ | rfl
  intro c9 h
  unfold locks_Release_J1 at h
  refine Wk_cond_bool rfl (fun hc7 => ?_) (fun hc7 => ?_)
  · rw [if_pos hc7] at h
    refine Wk_seq (Wk_regionZ fun Z hZ => ?_)
    simp only [go_sem, seval, hc7]
    refine hZ _ (pp (Wk_ret (pp ?_)))
    cases h
    simp only [go_sem, seval]
    exact ⟨_, rfl, RokI.h⟩
  rw [if_neg (ne_true_of_eq_false hc7)] at h
  refine Wk_skip (pp ?_)
  unfold locks_Release_J4 at h
  refine Wk_seq ?_
  obtain ⟨r13, hr8, h⟩ := Option.bind_eq_some_iff.1 h
  refine Wk_regionZ fun Z hZ => ?_
  simp only [go_sem, seval, hc7, hr8]
  refine hZ _ (pp (Wk_seq ?_))
  apply Wk_join1 (fun (c18 : Bool) => ⟨tab 50 (updT (updT (updT deadT 0 (.sl false none 4 none (a0.map Lock.row))) 9 (.val (.int .i64 r13.1))) 40 (.val (.bool c18))), RZ⟩)
  · intro hJ9
    refine Wk_regionZ fun Z hZ => ?_
    simp only [go_sem, seval]
    refine RX_guard_nbool rfl (fun hc10 => ?_) (fun hc10 => ?_)
    · rw [if_neg (ne_true_of_eq_false hc10)] at h
      simp only [go_sem, seval, hc10]
      refine hZ _ (pp (hJ9 _ true ?_ h))
      refine weak_roots ?_ ?_ <;> repeat' first | exact xn | exact rn | refine xc ?_ ?_ | refine rc ?_ ?_ ?_ | rfl
    rw [if_pos hc10] at h
    obtain ⟨x19, hb11, hx12, h⟩ := gx_some h
    simp only [go_sem, seval, hc10, hb11, hx12]
    refine hZ _ (pp (hJ9 _ (!decide (x19.Owner = a2)) ?_ h))
    refine weak_roots ?_ ?_ <;> repeat' first | exact xn | exact rn | refine xc ?_ ?_ | refine rc ?_ ?_ ?_ | rfl
  intro c18 h
  unfold locks_Release_J2 at h
  refine Wk_cond_bool rfl (fun hc13 => ?_) (fun hc13 => ?_)
  · rw [if_pos hc13] at h
    refine Wk_seq (Wk_regionZ fun Z hZ => ?_)
    simp only [go_sem, seval, hc13]
    refine hZ _ (pp (Wk_ret (pp ?_)))
    cases h
    simp only [go_sem, seval]
    exact ⟨_, rfl, RokI.h⟩
  rw [if_neg (ne_true_of_eq_false hc13)] at h
  refine Wk_skip (pp ?_)
  unfold locks_Release_J3 at h
  refine Wk_seq ?_
  obtain ⟨r20, hr14, h⟩ := Option.bind_eq_some_iff.1 h
  obtain ⟨r21, hr15, h⟩ := Option.bind_eq_some_iff.1 h
  refine Wk_regionZ fun Z hZ => ?_
  simp only [go_sem, seval, hc13, hr14, hr15]
  refine hZ _ (pp (Wk_seq (Wk_regionZ fun Z hZ => ?_)))
  simp only [go_sem, seval]
  refine hZ _ (pp (Wk_ret (pp ?_)))
  cases h
  simp only [go_sem, seval]
  exact ⟨_, rfl, RokI.h⟩
def fs_locks_Release (N : Nat) : FnS := ⟨[], false, fn3 (decL 4 Lock.dec) Ref.decA (decI .i64) fun q0 q1 q2 => (locks_Release N q0 q1 q2).map fun r => .tup [.sl false none 4 none (r.1.map Lock.row), .val (.int .i64 r.2.1), .val (.int .i64 r.2.2)], false⟩
attribute [go_sem] fs_locks_Release
theorem fs_locks_Release_ok (N : Nat) : FSOk Try.prog 12 (fs_locks_Release N) := ok3 (fun q0 q1 q2 r h => by
  obtain ⟨r', hr, rfl⟩ := Option.map_eq_some_iff.1 h
  exact (w_locks_Release N q0 q1 q2 r' hr).res (by (try simp only [go_sem]); exact RokI.h)) (fun h => decL_le Lock.dec_le h) (Ref.decA_le) (decI_le)

def fso_locks_Release (N : Nat) : FnS := ⟨[], false, fn3 (decL 4 Lock.dec) Ref.decA (decI .i64) fun q0 q1 q2 => (locks_Release N q0 q1 q2).map fun r => .tup [.sl true none 4 none (r.1.map Lock.row), .val (.int .i64 r.2.1), .val (.int .i64 r.2.2)], false⟩
attribute [go_sem] fso_locks_Release
theorem fso_locks_Release_ok (N : Nat) : FSOk Try.prog 12 (fso_locks_Release N) := ok3 (fun q0 q1 q2 r h => by
  obtain ⟨r', hr, rfl⟩ := Option.map_eq_some_iff.1 h
  exact w_locks_Release N q0 q1 q2 r' hr) (fun h => decL_le Lock.dec_le h) (Ref.decA_le) (decI_le)


theorem w_slices_Compact_2int (N : Nat) (a0 : (List Arr2_i64)) (r : (List Arr2_i64)) (h : slices_Compact_2int N a0 = some r) : Con Try.prog 45 [true] true [.sl true none 2 none (a0.map Arr2_i64.row)] (.sl true none 2 none (r.map Arr2_i64.row)) := by
  refine fun_own5 (G := (glist [])) (L := noL) Try.func45 rfl (by decide) (by kernel_rfl) gn (fun _ _ _ h => by cases h) [] mix (Nat.le_of_ble_eq_true rfl) ?_
  rw [show entryF [true] [.sl true none 2 none (a0.map Arr2_i64.row)] = (updT deadT 0 (.pal 0 [] 0 a0.length none)) from by funext t; match t with | 0 => simp [entryF, entryTmp, viewD, updT] | t + 1 => rfl]
  rw [show R0 [true] [.sl true none 2 none (a0.map Arr2_i64.row)] = upd RZ 0 (.sl true none 2 none (a0.map Arr2_i64.row)) from by funext t; match t with | 0 => rfl | t + 1 => rfl]
  simp only [Try.f45]
  unfold slices_Compact_2int at h
  refine Wk_seq (Wk_regionZ fun Z hZ => ?_)
  simp (config := { maxSteps := 4000000 }) only [go_sem, seval]
  refine hZ _ (pp (Wk_seq (Wk_seq (Wk_regionZ fun Z hZ => ?_))))
  simp (config := { maxSteps := 4000000 }) only [go_sem, seval]
  refine hZ _ (pp (Wk_cond_dec rfl (fun hc1 => ?_) (fun hc1 => ?_)))
  · have hc1d := decide_eq_true hc1
    first | rw [if_pos hc1] at h | rw [if_pos hc1d] at h | simp only [hc1d, Bool.not_true, Bool.not_false, Bool.false_eq_true, if_true, if_false] at h
    refine Wk_seq (Wk_regionZ fun Z hZ => ?_)
    simp (config := { maxSteps := 4000000 }) only [go_sem, seval, hc1d]
    refine hZ _ (pp (Wk_ret (pp ?_)))
    cases h
    simp (config := { maxSteps := 4000000 }) only [go_sem, seval, FinO_ret]
    exact ⟨_, rfl, RokI.h, KeepI.h, PureI.h⟩
  have hc1d := decide_eq_false hc1
  first | rw [if_neg hc1] at h | rw [if_neg (ne_true_of_eq_false hc1d)] at h | simp only [hc1d, Bool.not_true, Bool.not_false, Bool.false_eq_true, if_true, if_false] at h
  refine Wk_skip (pp (Wk_seq (Wk_seq (Wk_regionZ fun Z hZ => ?_))))
  simp (config := { maxSteps := 4000000 }) only [go_sem, seval, hc1d]
  refine hZ _ (pp (Wk_block (Wk_real fun hreal3 => ?_)))
  have hl2 := hreal3.lenX 0 (by simp only [go_sem, seval]; rfl)
  first | rw [List.length_map] at hl2 | rw [mxR_len] at hl2 | rw [← List.map_append, List.length_map] at hl2
  refine Wk_count (fun (v3 : Nat) (b : Unit) => ⟨tab 61 (updT (updT deadT 0 (.pal 0 [] 0 a0.length none)) 3 (.val (.int .i64 ((v3 : Nat) : Int)))), (upd RZ 0 (.sl true none 2 none (a0.map Arr2_i64.row)))⟩) () h ?_ ?_
  · refine weak_roots ?_ ?_ <;> repeat' first | exact xn | exact rn | refine xc ?_ ?_ | refine rc ?_ ?_ ?_ | rfl | simp only [go_sem, seval, Bool.or_self, List.length_set, Int.natCast_zero, Int.cast_ofNat_Int, hc1d]
  rintro v3 ⟨⟩ _ h -
  rcases (count_cases a0.length v3).symm with ⟨hi4', hd7⟩ | ⟨hi4', hd7⟩
  · rw [hd7] at h
    simp only [slices_Compact_2int_L1] at h
    refine Wk_seq (Wk_seq (Wk_regionZ fun Z hZ => ?_))
    simp (config := { maxSteps := 4000000 }) only [go_sem, seval, hi4']
    refine hZ _ (pp ?_)
    try simp only [Int.ofNat_lt, hi4', if_true, if_false] at h
    refine Wk_cond_f rfl (Wk_exit (pp (Wk_seq (Wk_regionZ fun Z hZ => ?_))))
    simp (config := { maxSteps := 4000000 }) only [go_sem, seval]
    refine hZ _ (pp (Wk_ret (pp ?_)))
    cases h
    simp (config := { maxSteps := 4000000 }) only [go_sem, seval, FinO_ret]
    exact ⟨_, rfl, RokI.h, KeepI.h, PureI.h⟩
  rw [hd7] at h
  simp only [slices_Compact_2int_L1] at h
  have hw6 := wrap_succ hi4' hl2
  refine Wk_seq (Wk_seq (Wk_regionZ fun Z hZ => ?_))
  simp (config := { maxSteps := 4000000 }) only [go_sem, seval, hi4']
  refine hZ _ (pp ?_)
  try simp only [Int.ofNat_lt, hi4', if_true, if_false] at h
  refine Wk_cond_t rfl (Wk_skip (pp (Wk_seq (Wk_block (Wk_seq ?_)))))
  obtain ⟨x1, hb8, hx9, h⟩ := gx_some h
  try simp only [Int.toNat_natCast] at hx9
  try simp only [Int.ofNat_lt, Int.natCast_nonneg, true_and] at hb8
  obtain ⟨x2, hb10, hx11, h⟩ := gx_some h
  refine Wk_regionD fun Z hZ => ?_
  simp (config := { maxSteps := 4000000 }) only [go_sem, seval, hi4', hx9, hb10, hx11]
  repeat with_reducible refine and_bar (by kernel_rfl) ?_
  refine hZ _ (by kernel_rfl) (pp (sw (Wk_cond_bool rfl) (fun hc12 => ?_) (fun hc12 => ?_)))
  · first | rw [if_neg (ne_true_of_eq_false hc12)] at h | simp only [hc12, Bool.or_false, Bool.or_true, Bool.false_or, Bool.true_or, Bool.and_true, Bool.true_and, Bool.and_false, Bool.false_and, Bool.not_true, Bool.not_false, Bool.false_eq_true, if_true, if_false] at h
    refine Wk_skip (pp (Wk_regionZ fun Z hZ => ?_))
    simp (config := { maxSteps := 4000000 }) only [go_sem, seval, hw6, hc12]
    refine hZ _ (pp ?_)
    first | refine ⟨(), ?_, h⟩ | refine ⟨hi4', (), ?_, h⟩
    refine weak_roots ?_ ?_ <;> repeat' first | exact xn | exact rn | refine xc ?_ ?_ | refine rc ?_ ?_ ?_ | rfl | simp only [go_sem, seval, Bool.or_self, List.length_set, Int.natCast_zero, Int.cast_ofNat_Int, hc1d, hi4', hw6, hb8, hx9, hb10, hx11, hc12]
  first | rw [if_pos hc12] at h | simp only [hc12, Bool.or_false, Bool.or_true, Bool.false_or, Bool.true_or, Bool.and_true, Bool.true_and, Bool.and_false, Bool.false_and, Bool.not_true, Bool.not_false, Bool.false_eq_true, if_true, if_false] at h
  refine Wk_seq ?_
  obtain ⟨hs13, h⟩ := slx_some h
  try simp only [Int.toNat_natCast] at hs13 h
  refine Wk_regionZ fun Z hZ => ?_
  simp (config := { maxSteps := 4000000 }) only [go_sem, seval, hc12, hs13, Nat.zero_le]
  refine hZ _ (pp (Wk_seq (Wk_seq (Wk_regionZ fun Z hZ => ?_))))
  simp (config := { maxSteps := 4000000 }) only [go_sem, seval]
  refine hZ _ (pp (Wk_block (Wk_fuel (fun (b : List Arr2_i64 × Int × Int) => ⟨tab 61 (updT (updT (updT (updT deadT 0 (.pal 0 [] 0 b.1.length none)) 3 (.val (.int .i64 b.2.1))) 4 (.pal 0 [] v3 (a0.length - v3) none)) 5 (.val (.int .i64 b.2.2))), (upd RZ 0 (.sl true none 2 none (b.1.map Arr2_i64.row)))⟩) (a0, ((v3 : Nat) : Int), 1) h ?_ ?_)))
  · refine weak_roots ?_ ?_ <;> repeat' first | exact xn | exact rn | refine xc ?_ ?_ | refine rc ?_ ?_ ?_ | rfl | simp only [go_sem, seval, Bool.or_self, List.length_set, Int.natCast_zero, Int.cast_ofNat_Int, hc1d, hi4', hw6, hb8, hx9, hb10, hx11, hc12, hs13, Nat.sub_zero, Nat.zero_le]
  rintro n ⟨l12, v13, v14⟩ h -
  cases n with
  | zero => simp [slices_Compact_2int_L2] at h
  | succ n =>
  simp only [slices_Compact_2int_L2] at h
  refine Wk_seq (Wk_seq (Wk_regionZ fun Z hZ => ?_))
  simp (config := { maxSteps := 4000000 }) only [go_sem, seval]
  refine hZ _ (pp (sw (Wk_cond_dec rfl) (fun hc14 => ?_) (fun hc14 => ?_)))
  · have hc14d := decide_eq_false hc14
    first | rw [if_neg hc14] at h | rw [if_neg (ne_true_of_eq_false hc14d)] at h | simp only [hc14d, Bool.not_true, Bool.not_false, Bool.false_eq_true, if_true, if_false] at h
    refine Wk_exit (pp ?_)
    unfold slices_Compact_2int_J1 at h
    refine Wk_seq ?_
    obtain ⟨hs24, h⟩ := slx_some h
    try simp only [Int.toNat_natCast] at hs24 h
    refine Wk_regionZ fun Z hZ => ?_
    simp (config := { maxSteps := 4000000 }) only [go_sem, seval, Nat.zero_le, hc14d, hs24, clr_rows (row := Arr2_i64.row) (z := (Arr2_i64.mk 0 0)) (rz := [.val (.int .i64 0), .val (.int .i64 0)]) (k := (v13).toNat) (l := l12) (by have := hs24; omega) rfl, altX, clearX, rewritten, RowOk.allD Arr2_i64.row_ok]
    refine hZ _ (pp (Wk_seq ?_))
    obtain ⟨hs25, h⟩ := slx_some h
    try simp only [Int.toNat_zero] at hs25 h
    refine Wk_regionZ fun Z hZ => ?_
    simp (config := { maxSteps := 4000000 }) only [go_sem, seval, Nat.sub_zero, hs24, deepV, hs25]
    refine hZ _ (pp (Wk_ret (pp ?_)))
    cases h
    simp (config := { maxSteps := 4000000 }) only [go_sem, seval, FinO_ret]
    exact ⟨_, rfl, RokI.h, KeepI.h, PureI.h⟩
  have hc14d := decide_eq_true hc14
  first | rw [if_pos hc14] at h | rw [if_pos hc14d] at h | simp only [hc14d, Bool.not_true, Bool.not_false, Bool.false_eq_true, if_true, if_false] at h
  refine Wk_skip (pp (Wk_seq (Wk_block (Wk_seq ?_))))
  obtain ⟨x16, hb15, hx16, h⟩ := gx_some h
  obtain ⟨x17, hb17, hx18, h⟩ := gx_some h
  refine Wk_regionD fun Z hZ => ?_
  simp (config := { maxSteps := 4000000 }) only [go_sem, seval, hb15, win_get hx16, win_lt hb15, hb17, win_get hx18, win_lt hb17]
  repeat with_reducible refine and_bar (by kernel_rfl) ?_
  refine hZ _ (by kernel_rfl) (pp (sw (Wk_cond_nbool rfl) (fun hc19 => ?_) (fun hc19 => ?_)))
  · first | rw [if_pos hc19] at h | simp only [hc19, hc12, Bool.or_false, Bool.or_true, Bool.false_or, Bool.true_or, Bool.and_true, Bool.true_and, Bool.and_false, Bool.false_and, Bool.not_true, Bool.not_false, Bool.false_eq_true, if_true, if_false] at h
    refine Wk_skip (pp (Wk_regionZ fun Z hZ => ?_))
    simp (config := { maxSteps := 4000000 }) only [go_sem, seval, hc19]
    refine hZ _ (pp (⟨_, Nat.lt_succ_self _, (l12, v13, IntKind.i64.wrap (v14 + 1)), ?_, h⟩))
    refine weak_roots ?_ ?_ <;> repeat' first | exact xn | exact rn | refine xc ?_ ?_ | refine rc ?_ ?_ ?_ | rfl | simp only [go_sem, seval, Bool.or_self, List.length_set, Int.natCast_zero, Int.cast_ofNat_Int, hc1d, hi4', hw6, hb8, hx9, hb10, hx11, hc12, hs13, Nat.sub_zero, Nat.zero_le, hc14d, hb15, hx16, win_get hx16, win_lt hb15, hb17, hx18, win_get hx18, win_lt hb17, hc19]
  first | rw [if_neg (ne_true_of_eq_false hc19)] at h | simp only [hc19, hc12, Bool.or_false, Bool.or_true, Bool.false_or, Bool.true_or, Bool.and_true, Bool.true_and, Bool.and_false, Bool.false_and, Bool.not_true, Bool.not_false, Bool.false_eq_true, if_true, if_false] at h
  refine Wk_seq ?_
  obtain ⟨x18, hb20, hx21, h⟩ := gx_some h
  have hx23 := set_get (y := x16) hx21
  refine Wk_regionZ fun Z hZ => ?_
  simp (config := { maxSteps := 4000000 }) only [go_sem, seval, hb15, win_lt hb15, hc19, win_get hx16, hb20, hx21, map_modify2 (row := Arr2_i64.row) (y := x16) (rx := [.val (.int .i64 x18.e0), .val (.int .i64 x18.e1)]) (ry := [.val (.int .i64 x16.e0), .val (.int .i64 x16.e1)]) hx21 rfl rfl]
  refine hZ _ (pp (Wk_regionZ fun Z hZ => ?_))
  simp (config := { maxSteps := 4000000 }) only [go_sem, seval]
  refine hZ _ (pp (Wk_regionZ fun Z hZ => ?_))
  simp (config := { maxSteps := 4000000 }) only [go_sem, seval]
  refine hZ _ (pp (⟨_, Nat.lt_succ_self _, ((l12.set ((v13).toNat) x16), IntKind.i64.wrap (v13 + 1), IntKind.i64.wrap (v14 + 1)), ?_, h⟩))
  refine weak_roots ?_ ?_ <;> repeat' first | exact xn | exact rn | refine xc ?_ ?_ | refine rc ?_ ?_ ?_ | rfl | simp only [go_sem, seval, List.length_set]
def fso_slices_Compact_2int (N : Nat) : FnS := { own := [true], pure := true, fn := fun cs => match cs with
  | [c0] => ((decO 2 Arr2_i64.dec) c0).bind fun q0 => (slices_Compact_2int N q0).map fun r => .sl true none 2 none (r.map Arr2_i64.row)
  | _ => none }
theorem fso_slices_Compact_2int_own (N : Nat) : (fso_slices_Compact_2int N).own = [true] := rfl
theorem fso_slices_Compact_2int_pure (N : Nat) : (fso_slices_Compact_2int N).pure = true := rfl
theorem fso_slices_Compact_2int_peek (N : Nat) : (fso_slices_Compact_2int N).peek = false := rfl
attribute [go_sem] fso_slices_Compact_2int fso_slices_Compact_2int_own fso_slices_Compact_2int_pure fso_slices_Compact_2int_peek
theorem fso_slices_Compact_2int_ok (N : Nat) : FSOk Try.prog 45 (fso_slices_Compact_2int N) := by
  refine ⟨fun cs r h => ?_, fun h => by cases h⟩
  simp only [fso_slices_Compact_2int] at h
  split at h
  · simp only [Option.bind_eq_some_iff, Option.map_eq_some_iff] at h
    obtain ⟨q0, h0, r', hr, rfl⟩ := h
    exact (w_slices_Compact_2int N q0 r' hr).argsO rfl (argsO_own (decO_ok Arr2_i64.row_ok Arr2_i64.dec_le h0) (argsO_nil))
  · cases h


noncomputable def G_cmp_Compare_int (N d f : Nat) : Option FnS := glist [(8, 63, fs_cmp_isNaN_int N), (10, 63, fs_cmp_isNaN_int N)] d f
attribute [go_sem] G_cmp_Compare_int
theorem w_cmp_Compare_int (N : Nat) (a0 : Int) (a1 : Int) (r : Int) (h : cmp_Compare_int N a0 a1 = some r) : Con Try.prog 44 [] true [.val (.int .i64 a0), .val (.int .i64 a1)] (.val (.int .i64 r)) := by
  refine fun_ok4 (G := (G_cmp_Compare_int N)) Try.func44 rfl (by decide) (by kernel_rfl) (gc 8 (fs_cmp_isNaN_int_ok N) (gc 10 (fs_cmp_isNaN_int_ok N) gn)) [] mix (Nat.le_of_ble_eq_true rfl) ?_
  simp only [Try.f44]
  unfold cmp_Compare_int at h
  refine Wk_seq (Wk_regionZ fun Z hZ => ?_)
  simp only [go_sem, seval]
  refine hZ _ (pp (Wk_seq ?_))
  obtain ⟨r1, hr1, h⟩ := Option.bind_eq_some_iff.1 h
  refine Wk_regionZ fun Z hZ => ?_
  simp only [go_sem, seval, hr1]
  refine hZ _ (pp (Wk_seq ?_))
  obtain ⟨r2, hr2, h⟩ := Option.bind_eq_some_iff.1 h
  refine Wk_regionZ fun Z hZ => ?_
  simp only [go_sem, seval, hr2]
  refine hZ _ (pp (Wk_seq (Wk_seq (Wk_regionZ fun Z hZ => ?_))))
  simp only [go_sem, seval]
  refine hZ _ (pp (Wk_cond_bool rfl (fun hc3 => ?_) (fun hc3 => ?_)))
  · rw [if_pos hc3] at h
    refine Wk_seq (Wk_seq (Wk_regionZ fun Z hZ => ?_))
    simp only [go_sem, seval, hc3]
    refine hZ _ (pp (Wk_cond_bool rfl (fun hc4 => ?_) (fun hc4 => ?_)))
    · rw [if_pos hc4] at h
      refine Wk_seq (Wk_regionZ fun Z hZ => ?_)
      simp only [go_sem, seval, hc4]
      refine hZ _ (pp (Wk_ret (pp ?_)))
      cases h
      simp only [go_sem, seval]
      exact ⟨_, rfl, RokI.h, PureI.h⟩
    rw [if_neg (ne_true_of_eq_false hc4)] at h
    refine Wk_skip (pp (Wk_seq (Wk_regionZ fun Z hZ => ?_)))
    simp only [go_sem, seval, hc4]
    refine hZ _ (pp (Wk_ret (pp ?_)))
    cases h
    simp only [go_sem, seval]
    exact ⟨_, rfl, RokI.h, PureI.h⟩
  rw [if_neg (ne_true_of_eq_false hc3)] at h
  refine Wk_skip (pp (Wk_seq (Wk_seq (Wk_regionZ fun Z hZ => ?_))))
  simp only [go_sem, seval, hc3]
  refine hZ _ (pp (Wk_cond_bool rfl (fun hc5 => ?_) (fun hc5 => ?_)))
  · rw [if_pos hc5] at h
    refine Wk_seq (Wk_regionZ fun Z hZ => ?_)
    simp only [go_sem, seval, hc5]
    refine hZ _ (pp (Wk_ret (pp ?_)))
    cases h
    simp only [go_sem, seval]
    exact ⟨_, rfl, RokI.h, PureI.h⟩
  rw [if_neg (ne_true_of_eq_false hc5)] at h
  refine Wk_skip (pp (Wk_seq (Wk_seq (Wk_regionZ fun Z hZ => ?_))))
  simp only [go_sem, seval, hc5]
  refine hZ _ (pp (Wk_cond_dec rfl (fun hc6 => ?_) (fun hc6 => ?_)))
  · have hc6d := decide_eq_true hc6
    rw [if_pos hc6] at h
    refine Wk_seq (Wk_regionZ fun Z hZ => ?_)
    simp only [go_sem, seval, hc6d]
    refine hZ _ (pp (Wk_ret (pp ?_)))
    cases h
    simp only [go_sem, seval]
    exact ⟨_, rfl, RokI.h, PureI.h⟩
  have hc6d := decide_eq_false hc6
  rw [if_neg hc6] at h
  refine Wk_skip (pp (Wk_seq (Wk_seq (Wk_regionZ fun Z hZ => ?_))))
  simp only [go_sem, seval, hc6d]
  refine hZ _ (pp (Wk_cond_dec rfl (fun hc7 => ?_) (fun hc7 => ?_)))
  · have hc7d := decide_eq_true hc7
    rw [if_pos hc7] at h
    refine Wk_seq (Wk_regionZ fun Z hZ => ?_)
    simp only [go_sem, seval, hc7d]
    refine hZ _ (pp (Wk_ret (pp ?_)))
    cases h
    simp only [go_sem, seval]
    exact ⟨_, rfl, RokI.h, PureI.h⟩
  have hc7d := decide_eq_false hc7
  rw [if_neg hc7] at h
  refine Wk_skip (pp (Wk_seq (Wk_regionZ fun Z hZ => ?_)))
  simp only [go_sem, seval, hc7d]
  refine hZ _ (pp (Wk_ret (pp ?_)))
  cases h
  simp only [go_sem, seval]
  exact ⟨_, rfl, RokI.h, PureI.h⟩
def fs_cmp_Compare_int (N : Nat) : FnS := ⟨[], true, fn2 (decI .i64) (decI .i64) fun q0 q1 => (cmp_Compare_int N q0 q1).map fun r => .val (.int .i64 r), false⟩
attribute [go_sem] fs_cmp_Compare_int
theorem fs_cmp_Compare_int_ok (N : Nat) : FSOk Try.prog 44 (fs_cmp_Compare_int N) := ok2 (fun q0 q1 r h => by
  obtain ⟨r', hr, rfl⟩ := Option.map_eq_some_iff.1 h
  exact w_cmp_Compare_int N q0 q1 r' hr) (decI_le) (decI_le)


noncomputable def G_locks_Edges_1 (N d f : Nat) : Option FnS := glist [(9, 44, fs_cmp_Compare_int N), (14, 44, fs_cmp_Compare_int N), (16, 43, fs_cmp_Or_int N)] d f
attribute [go_sem] G_locks_Edges_1
theorem w_locks_Edges_1 (N : Nat) (a0 : Arr2_i64) (a1 : Arr2_i64) (r : Int) (h : locks_Edges_1 N a0 a1 = some r) : Con Try.prog 42 [] true [.agg [.val (.int .i64 a0.e0), .val (.int .i64 a0.e1)], .agg [.val (.int .i64 a1.e0), .val (.int .i64 a1.e1)]] (.val (.int .i64 r)) := by
  refine fun_ok4 (G := (G_locks_Edges_1 N)) Try.func42 rfl (by decide) (by kernel_rfl) (gc 9 (fs_cmp_Compare_int_ok N) (gc 14 (fs_cmp_Compare_int_ok N) (gc 16 (fs_cmp_Or_int_ok N) gn))) [] mix (Nat.le_of_ble_eq_true rfl) ?_
  simp only [Try.f42]
  unfold locks_Edges_1 at h
  refine Wk_seq (Wk_regionZ fun Z hZ => ?_)
  simp only [go_sem, seval]
  refine hZ _ (pp (Wk_seq ?_))
  obtain ⟨r1, hr1, h⟩ := Option.bind_eq_some_iff.1 h
  obtain ⟨r2, hr2, h⟩ := Option.bind_eq_some_iff.1 h
  obtain ⟨r3, hr3, h⟩ := Option.bind_eq_some_iff.1 h
  refine Wk_regionD fun Z hZ => ?_
  simp only [go_sem, seval, hr1, hr2, hr3]
  repeat with_reducible refine and_bar (by kernel_rfl) ?_
  refine hZ _ (by kernel_rfl) (pp (Wk_ret (pp ?_)))
  cases h
  simp only [go_sem, seval]
  exact ⟨_, rfl, RokI.h, PureI.h⟩
def fs_locks_Edges_1 (N : Nat) : FnS := ⟨[], true, fn2 Arr2_i64.decA Arr2_i64.decA fun q0 q1 => (locks_Edges_1 N q0 q1).map fun r => .val (.int .i64 r), false⟩
attribute [go_sem] fs_locks_Edges_1
theorem fs_locks_Edges_1_ok (N : Nat) : FSOk Try.prog 42 (fs_locks_Edges_1 N) := ok2 (fun q0 q1 r h => by
  obtain ⟨r', hr, rfl⟩ := Option.map_eq_some_iff.1 h
  exact w_locks_Edges_1 N q0 q1 r' hr) (Arr2_i64.decA_le) (Arr2_i64.decA_le)


theorem w_math_bits_Len64 (N : Nat) (a0 : Int) (r : Int) (h : math_bits_Len64 N a0 = some r) : Con Try.prog 76 [] true [.val (.int .u64 a0)] (.val (.int .i64 r)) := by
  refine fun_ok4 (G := (glist [])) Try.func76 rfl (by decide) (by kernel_rfl) gn [] mix (Nat.le_of_ble_eq_true rfl) ?_
  simp only [Try.f76]
  unfold math_bits_Len64 at h
  refine Wk_seq (Wk_regionZ fun Z hZ => ?_)
  simp only [go_sem, seval]
  refine hZ _ (pp ?_)
  apply Wk_join2 (fun (v1 : Int) (v2 : Int) => ⟨tab 25 (updT (updT deadT 0 (.val (.int .u64 v1))) 2 (.val (.int .i64 v2))), RZ⟩)
  · intro hJ1
    refine Wk_seq (Wk_regionZ fun Z hZ => ?_)
    simp only [go_sem, seval]
    refine hZ _ (pp (Wk_cond_dec rfl (fun hc2 => ?_) (fun hc2 => ?_)))
    · have hc2d := decide_eq_true hc2
      rw [if_pos hc2] at h
      refine Wk_seq (Wk_regionZ fun Z hZ => ?_)
      simp only [go_sem, seval, hc2d]
      refine hZ _ (pp (Wk_regionZ fun Z hZ => ?_))
      simp only [go_sem, seval]
      refine hZ _ (pp (hJ1 _ (shrI .u64 a0 32) 32 ?_ h))
      refine weak_roots ?_ ?_ <;> repeat' first | exact xn | exact rn | refine xc ?_ ?_ | refine rc ?_ ?_ ?_ | rfl
    have hc2d := decide_eq_false hc2
    rw [if_neg hc2] at h
    refine Wk_skip (pp (hJ1 _ a0 0 ?_ h))
    refine weak_roots ?_ ?_ <;> repeat' first | exact xn | exact rn | refine xc ?_ ?_ | refine rc ?_ ?_ ?_ | rfl
  intro v1 v2 h
  unfold math_bits_Len64_J3 at h
  apply Wk_join2 (fun (v3 : Int) (v4 : Int) => ⟨tab 25 (updT (updT deadT 0 (.val (.int .u64 v3))) 2 (.val (.int .i64 v4))), RZ⟩)
  · intro hJ3
    refine Wk_seq (Wk_regionZ fun Z hZ => ?_)
    simp only [go_sem, seval]
    refine hZ _ (pp (Wk_cond_dec rfl (fun hc4 => ?_) (fun hc4 => ?_)))
    · have hc4d := decide_eq_true hc4
      rw [if_pos hc4] at h
      refine Wk_seq (Wk_regionZ fun Z hZ => ?_)
      simp only [go_sem, seval, hc4d]
      refine hZ _ (pp (Wk_regionZ fun Z hZ => ?_))
      simp only [go_sem, seval]
      refine hZ _ (pp (hJ3 _ (shrI .u64 v1 16) (IntKind.i64.wrap (v2 + 16)) ?_ h))
      refine weak_roots ?_ ?_ <;> repeat' first | exact xn | exact rn | refine xc ?_ ?_ | refine rc ?_ ?_ ?_ | rfl
    have hc4d := decide_eq_false hc4
    rw [if_neg hc4] at h
    refine Wk_skip (pp (hJ3 _ v1 v2 ?_ h))
    refine weak_roots ?_ ?_ <;> repeat' first | exact xn | exact rn | refine xc ?_ ?_ | refine rc ?_ ?_ ?_ | rfl
  intro v3 v4 h
  unfold math_bits_Len64_J2 at h
  apply Wk_join2 (fun (v5 : Int) (v6 : Int) => ⟨tab 25 (updT (updT deadT 0 (.val (.int .u64 v5))) 2 (.val (.int .i64 v6))), RZ⟩)
  · intro hJ5
    refine Wk_seq (Wk_regionZ fun Z hZ => ?_)
    simp only [go_sem, seval]
    refine hZ _ (pp (Wk_cond_dec rfl (fun hc6 => ?_) (fun hc6 => ?_)))
    · have hc6d := decide_eq_true hc6
      rw [if_pos hc6] at h
      refine Wk_seq (Wk_regionZ fun Z hZ => ?_)
      simp only [go_sem, seval, hc6d]
      refine hZ _ (pp (Wk_regionZ fun Z hZ => ?_))
      simp only [go_sem, seval]
      refine hZ _ (pp (hJ5 _ (shrI .u64 v3 8) (IntKind.i64.wrap (v4 + 8)) ?_ h))
      refine weak_roots ?_ ?_ <;> repeat' first | exact xn | exact rn | refine xc ?_ ?_ | refine rc ?_ ?_ ?_ | rfl
    have hc6d := decide_eq_false hc6
    rw [if_neg hc6] at h
    refine Wk_skip (pp (hJ5 _ v3 v4 ?_ h))
    refine weak_roots ?_ ?_ <;> repeat' first | exact xn | exact rn | refine xc ?_ ?_ | refine rc ?_ ?_ ?_ | rfl
  intro v5 v6 h
  unfold math_bits_Len64_J1 at h
  refine Wk_seq ?_
  obtain ⟨b7, hb7, hx8, h⟩ := gxs_some h
  refine Wk_regionZ fun Z hZ => ?_
  simp only [go_sem, seval, hb7, hx8]
  refine hZ _ (pp (Wk_ret (pp ?_)))
  cases h
  simp only [go_sem, seval]
  exact ⟨_, rfl, RokI.h, PureI.h⟩
def fs_math_bits_Len64 (N : Nat) : FnS := ⟨[], true, fn1 (decI .u64) fun q0 => (math_bits_Len64 N q0).map fun r => .val (.int .i64 r), false⟩
attribute [go_sem] fs_math_bits_Len64
theorem fs_math_bits_Len64_ok (N : Nat) : FSOk Try.prog 76 (fs_math_bits_Len64 N) := ok1 (fun q0 r h => by
  obtain ⟨r', hr, rfl⟩ := Option.map_eq_some_iff.1 h
  exact w_math_bits_Len64 N q0 r' hr) (decI_le)


noncomputable def G_math_bits_Len (N d f : Nat) : Option FnS := glist [(7, 76, fs_math_bits_Len64 N)] d f
attribute [go_sem] G_math_bits_Len
theorem w_math_bits_Len (N : Nat) (a0 : Int) (r : Int) (h : math_bits_Len N a0 = some r) : Con Try.prog 62 [] true [.val (.int .u64 a0)] (.val (.int .i64 r)) := by
  refine fun_ok4 (G := (G_math_bits_Len N)) Try.func62 rfl (by decide) (by kernel_rfl) (gc 7 (fs_math_bits_Len64_ok N) gn) [] mix (Nat.le_of_ble_eq_true rfl) ?_
  simp only [Try.f62]
  unfold math_bits_Len at h
  refine Wk_seq (Wk_regionZ fun Z hZ => ?_)
  simp only [go_sem, seval]
  refine hZ _ (pp (Wk_seq (Wk_cond_f rfl ?_)))
  first | rw [if_pos (rfl : true = true)] at h | rw [if_neg Bool.false_ne_true] at h | skip
  refine Wk_skip (pp (Wk_seq ?_))
  obtain ⟨r1, hr1, h⟩ := Option.bind_eq_some_iff.1 h
  refine Wk_regionZ fun Z hZ => ?_
  simp only [go_sem, seval, hr1]
  refine hZ _ (pp (Wk_ret (pp ?_)))
  cases h
  simp only [go_sem, seval]
  exact ⟨_, rfl, RokI.h, PureI.h⟩
def fs_math_bits_Len (N : Nat) : FnS := ⟨[], true, fn1 (decI .u64) fun q0 => (math_bits_Len N q0).map fun r => .val (.int .i64 r), false⟩
attribute [go_sem] fs_math_bits_Len
theorem fs_math_bits_Len_ok (N : Nat) : FSOk Try.prog 62 (fs_math_bits_Len N) := ok1 (fun q0 r h => by
  obtain ⟨r', hr, rfl⟩ := Option.map_eq_some_iff.1 h
  exact w_math_bits_Len N q0 r' hr) (decI_le)


noncomputable def G_slices_insertionSortCmpFunc_2int_locks_Edges_1_cut (N d f : Nat) : Option FnS := glist [(32, 42, fs_locks_Edges_1 N)] d f
attribute [go_sem] G_slices_insertionSortCmpFunc_2int_locks_Edges_1_cut
theorem len_slices_insertionSortCmpFunc_2int_locks_Edges_1_cut (N : Nat) (a0 : (List Arr2_i64)) (a1 : Int) (a2 : Int) (r : (List Arr2_i64)) (h : slices_insertionSortCmpFunc_2int_locks_Edges_1_cut N a0 a1 a2 = some r) : (r).length = a0.length := by
  unfold slices_insertionSortCmpFunc_2int_locks_Edges_1_cut at h; exact (lenM_some h).2
theorem w_slices_insertionSortCmpFunc_2int_locks_Edges_1_cut (N : Nat) (a0 : (List Arr2_i64)) (a1 : Int) (a2 : Int) (r : (List Arr2_i64)) (h : slices_insertionSortCmpFunc_2int_locks_Edges_1_cut N a0 a1 a2 = some r) : ConL Try.prog 67 1 [.sl true none 2 none (a0.map Arr2_i64.row), .val (.int .i64 a1), .val (.int .i64 a2), .clo 42 []] (.tup []) [.sl true none 2 none (r.map Arr2_i64.row)] := by
  unfold slices_insertionSortCmpFunc_2int_locks_Edges_1_cut at h
  obtain ⟨h, hlen⟩ := lenM_some h
  refine fun_lent5 (G := (G_slices_insertionSortCmpFunc_2int_locks_Edges_1_cut N)) (L := noL) Try.func67 rfl (by decide) (by kernel_rfl) 1 (by kernel_rfl) (gc 32 (fs_locks_Edges_1_ok N) gn) (fun _ _ _ h => by cases h) [] mix (Nat.le_of_ble_eq_true rfl) (Nat.le_of_ble_eq_true rfl) rfl (by simp [lentSh, hlen]) ?_
  simp only [Try.f67]
  refine Wk_seq (Wk_regionZ fun Z hZ => ?_)
  simp only [go_sem, seval]
  refine hZ _ (pp (Wk_block (Wk_fuel (fun (b : Int) => ⟨tab 53 (updT (updT (updT (updT (updT deadT 0 (.pal 0 [] 0 a0.length none)) 1 (.val (.int .i64 a1))) 2 (.val (.int .i64 a2))) 3 (.clo 42 [])) 8 (.val (.int .i64 b))), (upd RZ 0 (.sl true none 2 none (a0.map Arr2_i64.row)))⟩) (IntKind.i64.wrap (a1 + 1)) h ?_ ?_)))
  · refine weak_roots ?_ ?_ <;> repeat' first | exact xn | exact rn | refine xc ?_ ?_ | refine rc ?_ ?_ ?_ | rfl
  rintro n v1 h -
  cases n with
  | zero => simp [slices_insertionSortCmpFunc_2int_locks_Edges_1_cut_L1] at h
  | succ n =>
  simp only [slices_insertionSortCmpFunc_2int_locks_Edges_1_cut_L1] at h
  refine Wk_seq (Wk_seq (Wk_regionZ fun Z hZ => ?_))
  simp only [go_sem, seval]
  refine hZ _ (pp (sw (Wk_cond_dec rfl) (fun hc1 => ?_) (fun hc1 => ?_)))
  · have hc1d := decide_eq_false hc1
    rw [if_neg hc1] at h
    refine Wk_exit (pp ?_)
    obtain rfl := Option.some.inj h
    refine FinL_mk (.inr rfl) (Weak.refl _) (by simp only [go_sem, seval, hc1d]; rfl) (by simp only [go_sem, seval]; rfl) (by (try simp only [go_sem, seval, Bool.or_self, List.length_set, Int.natCast_zero, Int.cast_ofNat_Int, hc1d]); first | exact Le.refl _ | exact LeI.h) ?_
    exact el_cons (by simp only [go_sem, seval, hc1d] <;> rfl) (by simp only [go_sem, seval] <;> rfl) (el_nil)
  have hc1d := decide_eq_true hc1
  rw [if_pos hc1] at h
  refine Wk_skip (pp (Wk_seq (Wk_block (Wk_seq (Wk_regionZ fun Z hZ => ?_)))))
  simp only [go_sem, seval, hc1d]
  refine hZ _ (pp (Wk_block (Wk_fuel (fun (b : Unit) => ⟨tab 53 (updT (updT (updT (updT (updT (updT deadT 0 (.pal 0 [] 0 a0.length none)) 1 (.val (.int .i64 a1))) 2 (.val (.int .i64 a2))) 3 (.clo 42 [])) 8 (.val (.int .i64 v1))) 9 (.val (.int .i64 v1))), (upd RZ 0 (.sl true none 2 none (a0.map Arr2_i64.row)))⟩) () h ?_ ?_)))
  · refine weak_roots ?_ ?_ <;> repeat' first | exact xn | exact rn | refine xc ?_ ?_ | refine rc ?_ ?_ ?_ | rfl
  rintro n ⟨⟩ h -
  cases n with
  | zero => simp [slices_insertionSortCmpFunc_2int_locks_Edges_1_cut_L2] at h
  | succ n =>
  simp only [slices_insertionSortCmpFunc_2int_locks_Edges_1_cut_L2] at h
  refine Wk_seq ?_
  apply Wk_join1 (fun (c9 : Bool) => ⟨tab 53 (updT (updT (updT (updT (updT (updT (updT deadT 0 (.pal 0 [] 0 a0.length none)) 1 (.val (.int .i64 a1))) 2 (.val (.int .i64 a2))) 3 (.clo 42 [])) 8 (.val (.int .i64 v1))) 9 (.val (.int .i64 v1))) 34 (.val (.bool c9))), (upd RZ 0 (.sl true none 2 none (a0.map Arr2_i64.row)))⟩)
  · intro hJ2
    refine Wk_regionD fun Z hZ => ?_
    simp only [go_sem, seval]
    refine sw (RX_guard_dec rfl) (fun hc3 => ?_) (fun hc3 => ?_)
    · have hc3d := decide_eq_false hc3
      rw [if_neg hc3] at h
      simp only [go_sem, seval, hc3d]
      refine hZ _ (by kernel_rfl) (pp (hJ2 _ false ?_ h))
      refine weak_roots ?_ ?_ <;> repeat' first | exact xn | exact rn | refine xc ?_ ?_ | refine rc ?_ ?_ ?_ | rfl
    have hc3d := decide_eq_true hc3
    rw [if_pos hc3] at h
    obtain ⟨x10, hb4, hx5, h⟩ := gx_some h
    obtain ⟨x11, hb6, hx7, h⟩ := gx_some h
    obtain ⟨r12, hr8, h⟩ := Option.bind_eq_some_iff.1 h
    simp only [go_sem, seval, hc3d, hb4, hx5, hb6, hx7, hr8]
    repeat with_reducible refine and_bar (by kernel_rfl) ?_
    refine hZ _ (by kernel_rfl) (pp (hJ2 _ (decide (r12 < 0)) ?_ h))
    refine weak_roots ?_ ?_ <;> repeat' first | exact xn | exact rn | refine xc ?_ ?_ | refine rc ?_ ?_ ?_ | rfl
  intro c9 h
  unfold slices_insertionSortCmpFunc_2int_locks_Edges_1_cut_J1 at h
  refine Wk_cond_bool rfl (fun hc9 => ?_) (fun hc9 => ?_)
  · rw [if_pos hc9] at h
    refine Wk_skip (pp ?_)
    unfold slices_insertionSortCmpFunc_2int_locks_Edges_1_cut_J2 at h
    refine Wk_seq (Wk_block ?_)
    obtain ⟨x13, hb10, hx11, h⟩ := gx_some h
    obtain ⟨x14, hb12, hx13, h⟩ := gx_some h
    cases h
  rw [if_neg (ne_true_of_eq_false hc9)] at h
  refine Wk_exit (pp (Wk_regionZ fun Z hZ => ?_))
  simp only [go_sem, seval, hc9]
  refine hZ _ (pp (⟨_, Nat.lt_succ_self _, (IntKind.i64.wrap (v1 + 1)), ?_, h⟩))
  refine weak_roots ?_ ?_ <;> repeat' first | exact xn | exact rn | refine xc ?_ ?_ | refine rc ?_ ?_ ?_ | rfl
def fl_slices_insertionSortCmpFunc_2int_locks_Edges_1_cut (N : Nat) : FnL := ⟨1, fun cs rest => match cs, rest with
  | [v0], [c1, c2, .clo 42 []] => (lst1 2 Arr2_i64.dec v0).bind fun q0 => ((decI .i64) c1).bind fun q1 => ((decI .i64) c2).bind fun q2 => (slices_insertionSortCmpFunc_2int_locks_Edges_1_cut N q0 q1 q2).map fun r => (.tup [], [.sl true none 2 none (r.map Arr2_i64.row)])
  | _, _ => none⟩
attribute [go_sem] fl_slices_insertionSortCmpFunc_2int_locks_Edges_1_cut
theorem fl_slices_insertionSortCmpFunc_2int_locks_Edges_1_cut_ok (N : Nat) : FLOk Try.prog 67 (fl_slices_insertionSortCmpFunc_2int_locks_Edges_1_cut N) := by
  intro cs rest r ls hlen h
  simp only [fl_slices_insertionSortCmpFunc_2int_locks_Edges_1_cut] at h
  split at h
  · simp only [Option.bind_eq_some_iff, Option.map_eq_some_iff] at h
    obtain ⟨q0, h0, q1, h1, q2, h2, r', hr, he⟩ := h
    cases he
    exact ConL.told rfl rfl (lv_cons (lst1_ok Arr2_i64.row_ok Arr2_i64.dec_le h0) (lv_nil)) ((LeL.cons (decI_le h1) (LeL.cons (decI_le h2) (LeL.cons (Le.clo (LeL.nil)) (LeL.nil))))) (w_slices_insertionSortCmpFunc_2int_locks_Edges_1_cut N q0 q1 q2 r' hr)
  · cases h


noncomputable def L_slices_pdqsortCmpFunc_2int_locks_Edges_1_cut (N d f : Nat) : Option FnL := llist [(30, 67, fl_slices_insertionSortCmpFunc_2int_locks_Edges_1_cut N)] d f
attribute [go_sem] L_slices_pdqsortCmpFunc_2int_locks_Edges_1_cut
theorem len_slices_pdqsortCmpFunc_2int_locks_Edges_1_cut (N : Nat) (a0 : (List Arr2_i64)) (a1 : Int) (a2 : Int) (a3 : Int) (r : (List Arr2_i64)) (h : slices_pdqsortCmpFunc_2int_locks_Edges_1_cut N a0 a1 a2 a3 = some r) : (r).length = a0.length := by
  unfold slices_pdqsortCmpFunc_2int_locks_Edges_1_cut at h; exact (lenM_some h).2
theorem w_slices_pdqsortCmpFunc_2int_locks_Edges_1_cut (N : Nat) (a0 : (List Arr2_i64)) (a1 : Int) (a2 : Int) (a3 : Int) (r : (List Arr2_i64)) (h : slices_pdqsortCmpFunc_2int_locks_Edges_1_cut N a0 a1 a2 a3 = some r) : ConL Try.prog 61 1 [.sl true none 2 none (a0.map Arr2_i64.row), .val (.int .i64 a1), .val (.int .i64 a2), .val (.int .i64 a3), .clo 42 []] (.tup []) [.sl true none 2 none (r.map Arr2_i64.row)] := by
  unfold slices_pdqsortCmpFunc_2int_locks_Edges_1_cut at h
  obtain ⟨h, hlen⟩ := lenM_some h
  refine fun_lent5 (G := (glist [])) (L := (L_slices_pdqsortCmpFunc_2int_locks_Edges_1_cut N)) Try.func61 rfl (by decide) (by kernel_rfl) 1 (by kernel_rfl) gn (lc 30 (fl_slices_insertionSortCmpFunc_2int_locks_Edges_1_cut_ok N) ln) [] mix (Nat.le_of_ble_eq_true rfl) (Nat.le_of_ble_eq_true rfl) rfl (by simp [lentSh, hlen]) ?_
  simp only [Try.f61]
  refine Wk_seq (Wk_regionZ fun Z hZ => ?_)
  simp only [go_sem, seval]
  refine hZ _ (pp (Wk_seq (Wk_regionZ fun Z hZ => ?_)))
  simp only [go_sem, seval]
  refine hZ _ (pp (Wk_block (Wk_fuel (fun (b : Unit) => ⟨tab 148 (updT (updT (updT (updT (updT (updT (updT deadT 0 (.pal 0 [] 0 a0.length none)) 1 (.val (.int .i64 a1))) 2 (.val (.int .i64 a2))) 3 (.val (.int .i64 a3))) 4 (.clo 42 [])) 10 (.val (.bool true))) 11 (.val (.bool true))), (upd RZ 0 (.sl true none 2 none (a0.map Arr2_i64.row)))⟩) () h ?_ ?_)))
  · refine weak_roots ?_ ?_ <;> repeat' first | exact xn | exact rn | refine xc ?_ ?_ | refine rc ?_ ?_ ?_ | rfl
  rintro n ⟨⟩ h -
  cases n with
  | zero => simp [slices_pdqsortCmpFunc_2int_locks_Edges_1_cut_L1] at h
  | succ n =>
  simp only [slices_pdqsortCmpFunc_2int_locks_Edges_1_cut_L1] at h
  refine Wk_block (Wk_seq (Wk_regionZ fun Z hZ => ?_))
  simp only [go_sem, seval]
  refine hZ _ (pp (Wk_seq (Wk_seq (Wk_regionZ fun Z hZ => ?_))))
  simp only [go_sem, seval]
  refine hZ _ (pp (sw (Wk_cond_dec rfl) (fun hc1 => ?_) (fun hc1 => ?_)))
  · have hc1d := decide_eq_false hc1
    rw [if_neg hc1] at h
    refine Wk_skip (pp (Wk_seq (Wk_seq (Wk_regionZ fun Z hZ => ?_))))
    simp only [go_sem, seval, hc1d]
    refine hZ _ (pp (Wk_cond_dec rfl (fun hc3 => ?_) (fun hc3 => ?_)))
    · have hc3d := decide_eq_true hc3
      rw [if_pos hc3] at h
      refine Wk_seq ?_
      cases h
    have hc3d := decide_eq_false hc3
    rw [if_neg hc3] at h
    refine Wk_skip (pp (Wk_seq (Wk_seq (Wk_regionZ fun Z hZ => ?_))))
    simp only [go_sem, seval, hc3d]
    refine hZ _ (pp (Wk_cond_f rfl ?_))
    first | rw [if_pos (rfl : true = true)] at h | rw [if_neg Bool.false_ne_true] at h | skip
    refine Wk_skip (pp (Wk_seq ?_))
    cases h
  have hc1d := decide_eq_true hc1
  rw [if_pos hc1] at h
  refine Wk_seq ?_
  obtain ⟨r1, hr2, h⟩ := Option.bind_eq_some_iff.1 h
  refine Wk_regionZ fun Z hZ => ?_
  simp only [go_sem, seval, hc1d, hr2, len_slices_insertionSortCmpFunc_2int_locks_Edges_1_cut N a0 a1 a2 r1 hr2]
  refine hZ _ (pp (Wk_ret (pp ?_)))
  obtain rfl := Option.some.inj h
  refine FinL_mk (.inl rfl) (Weak.refl _) (by simp only [go_sem, seval]; rfl) (by simp only [go_sem, seval]; rfl) (by (try simp only [go_sem, seval, Bool.or_self, List.length_set, Int.natCast_zero, Int.cast_ofNat_Int, hc1d, hr2, len_slices_insertionSortCmpFunc_2int_locks_Edges_1_cut N a0 a1 a2 r1 hr2, List.take_of_length_le (Nat.le_of_eq (len_slices_insertionSortCmpFunc_2int_locks_Edges_1_cut N a0 a1 a2 r1 hr2))]); first | exact Le.refl _ | exact LeI.h) ?_
  exact el_cons (by simp only [go_sem, seval, len_slices_insertionSortCmpFunc_2int_locks_Edges_1_cut N a0 a1 a2 r1 hr2] <;> rfl) (by simp only [go_sem, seval] <;> rfl) (el_nil)
def fl_slices_pdqsortCmpFunc_2int_locks_Edges_1_cut (N : Nat) : FnL := ⟨1, fun cs rest => match cs, rest with
  | [v0], [c1, c2, c3, .clo 42 []] => (lst1 2 Arr2_i64.dec v0).bind fun q0 => ((decI .i64) c1).bind fun q1 => ((decI .i64) c2).bind fun q2 => ((decI .i64) c3).bind fun q3 => (slices_pdqsortCmpFunc_2int_locks_Edges_1_cut N q0 q1 q2 q3).map fun r => (.tup [], [.sl true none 2 none (r.map Arr2_i64.row)])
  | _, _ => none⟩
attribute [go_sem] fl_slices_pdqsortCmpFunc_2int_locks_Edges_1_cut
theorem fl_slices_pdqsortCmpFunc_2int_locks_Edges_1_cut_ok (N : Nat) : FLOk Try.prog 61 (fl_slices_pdqsortCmpFunc_2int_locks_Edges_1_cut N) := by
  intro cs rest r ls hlen h
  simp only [fl_slices_pdqsortCmpFunc_2int_locks_Edges_1_cut] at h
  split at h
  · simp only [Option.bind_eq_some_iff, Option.map_eq_some_iff] at h
    obtain ⟨q0, h0, q1, h1, q2, h2, q3, h3, r', hr, he⟩ := h
    cases he
    exact ConL.told rfl rfl (lv_cons (lst1_ok Arr2_i64.row_ok Arr2_i64.dec_le h0) (lv_nil)) ((LeL.cons (decI_le h1) (LeL.cons (decI_le h2) (LeL.cons (decI_le h3) (LeL.cons (Le.clo (LeL.nil)) (LeL.nil)))))) (w_slices_pdqsortCmpFunc_2int_locks_Edges_1_cut N q0 q1 q2 q3 r' hr)
  · cases h


noncomputable def G_slices_SortFunc_2int_locks_Edges_1_small (N d f : Nat) : Option FnS := glist [(11, 62, fs_math_bits_Len N)] d f
attribute [go_sem] G_slices_SortFunc_2int_locks_Edges_1_small
noncomputable def L_slices_SortFunc_2int_locks_Edges_1_small (N d f : Nat) : Option FnL := llist [(13, 61, fl_slices_pdqsortCmpFunc_2int_locks_Edges_1_cut N)] d f
attribute [go_sem] L_slices_SortFunc_2int_locks_Edges_1_small
theorem len_slices_SortFunc_2int_locks_Edges_1_small (N : Nat) (a0 : (List Arr2_i64)) (r : (List Arr2_i64)) (h : slices_SortFunc_2int_locks_Edges_1_small N a0 = some r) : (r).length = a0.length := by
  unfold slices_SortFunc_2int_locks_Edges_1_small at h; exact (lenM_some h).2
theorem w_slices_SortFunc_2int_locks_Edges_1_small (N : Nat) (a0 : (List Arr2_i64)) (r : (List Arr2_i64)) (h : slices_SortFunc_2int_locks_Edges_1_small N a0 = some r) : ConL Try.prog 41 1 [.sl true none 2 none (a0.map Arr2_i64.row), .clo 42 []] (.tup []) [.sl true none 2 none (r.map Arr2_i64.row)] := by
  unfold slices_SortFunc_2int_locks_Edges_1_small at h
  obtain ⟨h, hlen⟩ := lenM_some h
  refine fun_lent5 (G := (G_slices_SortFunc_2int_locks_Edges_1_small N)) (L := (L_slices_SortFunc_2int_locks_Edges_1_small N)) Try.func41 rfl (by decide) (by kernel_rfl) 1 (by kernel_rfl) (gc 11 (fs_math_bits_Len_ok N) gn) (lc 13 (fl_slices_pdqsortCmpFunc_2int_locks_Edges_1_cut_ok N) ln) [] mix (Nat.le_of_ble_eq_true rfl) (Nat.le_of_ble_eq_true rfl) rfl (by simp [lentSh, hlen]) ?_
  simp only [Try.f41]
  refine Wk_seq (Wk_regionZ fun Z hZ => ?_)
  simp only [go_sem, seval]
  refine hZ _ (pp ?_)
  obtain ⟨r1, hr1, h⟩ := Option.bind_eq_some_iff.1 h
  obtain ⟨r2, hr2, h⟩ := Option.bind_eq_some_iff.1 h
  refine Wk_regionZ fun Z hZ => ?_
  simp only [go_sem, seval, hr1, hr2, len_slices_pdqsortCmpFunc_2int_locks_Edges_1_cut N a0 0 ((a0.length : Nat) : Int) r1 r2 hr2]
  refine hZ _ (pp ?_)
  obtain rfl := Option.some.inj h
  refine FinL_mk (.inr rfl) (Weak.refl _) (by simp only [go_sem, seval]; rfl) (by simp only [go_sem, seval]; rfl) (by (try simp only [go_sem, seval, Bool.or_self, List.length_set, Int.natCast_zero, Int.cast_ofNat_Int, hr1, hr2, len_slices_pdqsortCmpFunc_2int_locks_Edges_1_cut N a0 0 ((a0.length : Nat) : Int) r1 r2 hr2, List.take_of_length_le (Nat.le_of_eq (len_slices_pdqsortCmpFunc_2int_locks_Edges_1_cut N a0 0 ((a0.length : Nat) : Int) r1 r2 hr2))]); first | exact Le.refl _ | exact LeI.h) ?_
  exact el_cons (by simp only [go_sem, seval, len_slices_pdqsortCmpFunc_2int_locks_Edges_1_cut N a0 0 ((a0.length : Nat) : Int) r1 r2 hr2] <;> rfl) (by simp only [go_sem, seval] <;> rfl) (el_nil)
def fl_slices_SortFunc_2int_locks_Edges_1_small (N : Nat) : FnL := ⟨1, fun cs rest => match cs, rest with
  | [v0], [.clo 42 []] => (lst1 2 Arr2_i64.dec v0).bind fun q0 =>  (slices_SortFunc_2int_locks_Edges_1_small N q0).map fun r => (.tup [], [.sl true none 2 none (r.map Arr2_i64.row)])
  | _, _ => none⟩
attribute [go_sem] fl_slices_SortFunc_2int_locks_Edges_1_small
theorem fl_slices_SortFunc_2int_locks_Edges_1_small_ok (N : Nat) : FLOk Try.prog 41 (fl_slices_SortFunc_2int_locks_Edges_1_small N) := by
  intro cs rest r ls hlen h
  simp only [fl_slices_SortFunc_2int_locks_Edges_1_small] at h
  split at h
  · simp only [Option.bind_eq_some_iff, Option.map_eq_some_iff] at h
    obtain ⟨q0, h0, r', hr, he⟩ := h
    cases he
    exact ConL.told rfl rfl (lv_cons (lst1_ok Arr2_i64.row_ok Arr2_i64.dec_le h0) (lv_nil)) ((LeL.cons (Le.clo (LeL.nil)) (LeL.nil))) (w_slices_SortFunc_2int_locks_Edges_1_small N q0 r' hr)
  · cases h


def ren_slices_SortFunc_2int_locks_Edges_1 : Go.Shelf.Ren := ⟨fun | 6 => 41 | 14 => 61 | 15 => 62 | 20 => 67 | 21 => 68 | 22 => 69 | 23 => 70 | 24 => 71 | 25 => 72 | 26 => 73 | 27 => 74 | 28 => 75 | 29 => 76 | 46 => 80 | 47 => 81 | 48 => 82 | 49 => 83 | 50 => 84 | 57 => 85 | n => n, fun | 0 => 0 | 3 => 3 | 4 => 4 | 5 => 5 | 9 => 9 | 22 => 41 | 24 => 43 | 25 => 68 | 39 => 76 | 45 => 87 | 46 => 88 | 50 => 52 | 53 => 94 | 55 => 96 | 66 => 100 | 70 => 104 | 76 => 106 | 77 => 107 | n => n, fun n => n⟩
theorem lay_slices_SortFunc_2int_locks_Edges_1 : Go.Proofs.SlLaysF0.n6 Try.prog ren_slices_SortFunc_2int_locks_Edges_1 where
  mixed := by kernel_rfl
  f6 := ⟨Try.f41.name, by decide, Try.func41.trans (congrArg some (by kernel_rfl))⟩
  f14 := ⟨Try.f61.name, by decide, Try.func61.trans (congrArg some (by kernel_rfl))⟩
  f15 := Try.func62.trans (congrArg some (by kernel_rfl))
  f20 := ⟨Try.f67.name, by decide, Try.func67.trans (congrArg some (by kernel_rfl))⟩
  f21 := ⟨Try.f68.name, by decide, Try.func68.trans (congrArg some (by kernel_rfl))⟩
  f22 := ⟨Try.f69.name, by decide, Try.func69.trans (congrArg some (by kernel_rfl))⟩
  f23 := ⟨Try.f70.name, by decide, Try.func70.trans (congrArg some (by kernel_rfl))⟩
  f24 := ⟨Try.f71.name, by decide, Try.func71.trans (congrArg some (by kernel_rfl))⟩
  f25 := ⟨Try.f72.name, by decide, Try.func72.trans (congrArg some (by kernel_rfl))⟩
  f26 := ⟨Try.f73.name, by decide, Try.func73.trans (congrArg some (by kernel_rfl))⟩
  f27 := ⟨Try.f74.name, by decide, Try.func74.trans (congrArg some (by kernel_rfl))⟩
  f28 := Try.func75.trans (congrArg some (by kernel_rfl))
  f29 := Try.func76.trans (congrArg some (by kernel_rfl))
  f46 := ⟨Try.f80.name, by decide, Try.func80.trans (congrArg some (by kernel_rfl))⟩
  f47 := Try.func81.trans (congrArg some (by kernel_rfl))
  f48 := Try.func82.trans (congrArg some (by kernel_rfl))
  f49 := ⟨Try.f83.name, by decide, Try.func83.trans (congrArg some (by kernel_rfl))⟩
  f50 := ⟨Try.f84.name, by decide, Try.func84.trans (congrArg some (by kernel_rfl))⟩
  f57 := ⟨Try.f85.name, by decide, Try.func85.trans (congrArg some (by kernel_rfl))⟩
  t0 := Try.underlying0
  a0 := Try.isAgg0
  z0 := Try.sizeOf0
  v0 := Try.zeroValue0
  t3 := Try.underlying3
  a3 := Try.isAgg3
  z3 := Try.sizeOf3
  v3 := Try.zeroValue3
  t4 := Try.underlying4
  a4 := Try.isAgg4
  z4 := Try.sizeOf4
  v4 := Try.zeroValue4
  t5 := Try.underlying5
  a5 := Try.isAgg5
  z5 := Try.sizeOf5
  v5 := Try.zeroValue5
  t9 := Try.underlying9
  a9 := Try.isAgg9
  z9 := Try.sizeOf9
  v9 := Try.zeroValue9
  t22 := Try.underlying41
  a22 := Try.isAgg41
  z22 := Try.sizeOf41
  v22 := Try.zeroValue41
  t25 := Try.underlying68
  a25 := Try.isAgg68
  z25 := Try.sizeOf68
  v25 := Try.zeroValue68
  t39 := Try.underlying76
  a39 := Try.isAgg76
  z39 := Try.sizeOf76
  v39 := Try.zeroValue76
  t45 := Try.underlying87
  a45 := Try.isAgg87
  z45 := Try.sizeOf87
  v45 := Try.zeroValue87
  t46 := Try.underlying88
  a46 := Try.isAgg88
  z46 := Try.sizeOf88
  v46 := Try.zeroValue88
  t50 := Try.underlying52
  a50 := Try.isAgg52
  z50 := Try.sizeOf52
  v50 := Try.zeroValue52
  t53 := Try.underlying94
  a53 := Try.isAgg94
  z53 := Try.sizeOf94
  v53 := Try.zeroValue94
  t55 := Try.underlying96
  a55 := Try.isAgg96
  z55 := Try.sizeOf96
  v55 := Try.zeroValue96
  t66 := Try.underlying100
  a66 := Try.isAgg100
  z66 := Try.sizeOf100
  v66 := Try.zeroValue100
  t70 := Try.underlying104
  a70 := Try.isAgg104
  z70 := Try.sizeOf104
  v70 := Try.zeroValue104
  t76 := Try.underlying106
  a76 := Try.isAgg106
  z76 := Try.sizeOf106
  v76 := Try.zeroValue106
  t77 := Try.underlying107
  a77 := Try.isAgg107
  z77 := Try.sizeOf107
  v77 := Try.zeroValue107
def enc_slices_SortFunc_2int_locks_Edges_1 (x : Arr2_i64) : List Value := [.int .i64 x.e0, .int .i64 x.e1]
theorem len_slices_SortFunc_2int_locks_Edges_1 (N : Nat) (a0 : (List Arr2_i64)) (r : (List Arr2_i64)) (h : slices_SortFunc_2int_locks_Edges_1 N a0 = some r) : (r).length = a0.length := by
  unfold slices_SortFunc_2int_locks_Edges_1 at h
  split at h
  · exact len_slices_SortFunc_2int_locks_Edges_1_small N a0 r h
  · exact sortM_len h
theorem w_slices_SortFunc_2int_locks_Edges_1 (N : Nat) (a0 : (List Arr2_i64)) (r : (List Arr2_i64)) (h : slices_SortFunc_2int_locks_Edges_1 N a0 = some r) : ConL Try.prog 41 1 [.sl true none 2 none (a0.map Arr2_i64.row), .clo 42 []] (.tup []) [.sl true none 2 none (r.map Arr2_i64.row)] := by
  unfold slices_SortFunc_2int_locks_Edges_1 at h
  split at h
  · exact w_slices_SortFunc_2int_locks_Edges_1_small N a0 r h
  · rename_i hne
    obtain ⟨h1, h2, h3, rfl⟩ := sortM_some h
    refine sortK_con lay_slices_SortFunc_2int_locks_Edges_1 2 (by decide) Try.isAgg43 Try.sizeOf43 enc_slices_SortFunc_2int_locks_Edges_1 (fun _ => rfl) (fun x v hv => by simp only [enc_slices_SortFunc_2int_locks_Edges_1, List.mem_cons, List.not_mem_nil, or_false] at hv; rcases hv with rfl | rfl <;> rfl) Arr2_i64.row (fun _ => rfl) rfl (enters_of Try.func41 (by kernel_rfl) rfl) (enters_of Try.func42 (by kernel_rfl) rfl) h2 (fun x y => ⟨true, ?_⟩) (fun e => hne (by rw [e]; rfl)) h3
    obtain ⟨z, hz⟩ := h1 x y
    have hw := w_locks_Edges_1 N x y  z hz
    show Con Try.prog 42 [] true _ (.val (.int .i64 ((locks_Edges_1 N x y ).getD 0)))
    rw [hz]
    exact hw
noncomputable def fl_slices_SortFunc_2int_locks_Edges_1 (N : Nat) : FnL := ⟨1, fun cs rest => match cs, rest with
  | [v0], [.clo 42 []] => (lst1 2 Arr2_i64.dec v0).bind fun q0 =>  (slices_SortFunc_2int_locks_Edges_1 N q0).map fun r => (.tup [], [.sl true none 2 none (r.map Arr2_i64.row)])
  | _, _ => none⟩
attribute [go_sem] fl_slices_SortFunc_2int_locks_Edges_1
theorem fl_slices_SortFunc_2int_locks_Edges_1_ok (N : Nat) : FLOk Try.prog 41 (fl_slices_SortFunc_2int_locks_Edges_1 N) := by
  intro cs rest r ls hlen h
  simp only [fl_slices_SortFunc_2int_locks_Edges_1] at h
  split at h
  · simp only [Option.bind_eq_some_iff, Option.map_eq_some_iff] at h
    obtain ⟨q0, h0, r', hr, he⟩ := h
    cases he
    exact ConL.told rfl rfl (lv_cons (lst1_ok Arr2_i64.row_ok Arr2_i64.dec_le h0) (lv_nil)) ((LeL.cons (Le.clo (LeL.nil)) (LeL.nil))) (w_slices_SortFunc_2int_locks_Edges_1 N q0 r' hr)
  · cases h


noncomputable def G_locks_Edges (N d f : Nat) : Option FnS := glist [(9, 21, fs_locks_Valid N), (36, 45, fso_slices_Compact_2int N)] d f
attribute [go_sem] G_locks_Edges
noncomputable def L_locks_Edges (N d f : Nat) : Option FnL := llist [(34, 41, fl_slices_SortFunc_2int_locks_Edges_1 N)] d f
attribute [go_sem] L_locks_Edges
theorem w_locks_Edges (N : Nat) (a0 : (List Lock)) (r : (List Arr2_i64)) (h : locks_Edges N a0 = some r) : Con Try.prog 20 [] true [.sl false none 4 none (a0.map Lock.row)] (.sl true none 2 none (r.map Arr2_i64.row)) := by
  refine fun_ok5 (G := (G_locks_Edges N)) (L := (L_locks_Edges N)) Try.func20 rfl (by decide) (by kernel_rfl) (gc 9 (fs_locks_Valid_ok N) (gc 36 (fso_slices_Compact_2int_ok N) gn)) (lc 34 (fl_slices_SortFunc_2int_locks_Edges_1_ok N) ln) [] mix (Nat.le_of_ble_eq_true rfl) ?_
  simp only [Try.f20]
  unfold locks_Edges at h
  refine Wk_seq (Wk_regionZ fun Z hZ => ?_)
  simp only [go_sem, seval]
  refine hZ _ (pp (Wk_seq (Wk_seq ?_)))
  obtain ⟨r1, hr1, h⟩ := Option.bind_eq_some_iff.1 h
  refine Wk_regionZ fun Z hZ => ?_
  simp only [go_sem, seval, hr1]
  refine hZ _ (pp (Wk_cond_nbool rfl (fun hc2 => ?_) (fun hc2 => ?_)))
  · rw [if_neg (ne_true_of_eq_false hc2)] at h
    refine Wk_seq (Wk_regionZ fun Z hZ => ?_)
    simp only [go_sem, seval, hc2]
    refine hZ _ (pp (Wk_ret (pp ?_)))
    obtain rfl := Option.some.inj h
    simp only [go_sem, seval]
    exact ⟨_, rfl, RokI.h, PureI.h⟩
  rw [if_pos hc2] at h
  refine Wk_skip (pp (Wk_seq (Wk_regionZ fun Z hZ => ?_)))
  simp only [go_sem, seval, hc2]
  refine hZ _ (pp (Wk_seq (Wk_seq (Wk_regionZ fun Z hZ => ?_))))
  simp only [go_sem, seval]
  refine hZ _ (pp (Wk_block (Wk_real fun hreal4 => ?_)))
  have hl3 := hreal4.lenT 0 (by decide) (by simp only [go_sem, seval]; rfl)
  first | rw [List.length_map] at hl3 | rw [mxR_len] at hl3 | rw [← List.map_append, List.length_map] at hl3
  refine Wk_range (fun (v5 : Nat) (b : List Arr2_i64) => ⟨tab 37 (updT (updT (updT (updT deadT 3 (.pal 30 [] 0 b.length none)) 11 (.sl false none 4 none (a0.map Lock.row))) 12 (.val (.int .i64 ((a0.length : Nat) : Int)))) 13 (.val (.int .i64 ((v5 : Nat) : Int)))), (upd RZ 30 (.sl true none 2 none (b.map Arr2_i64.row)))⟩) [] h ?_ ?_
  · refine Weak.trans (weak_adopt 3 30 2 (by simp only [go_sem, seval]) (by simp only [go_sem, seval])) ?_
    refine weak_roots ?_ ?_ <;> repeat' first | exact xn | exact rn | refine xc ?_ ?_ | refine rc ?_ ?_ ?_ | rfl | simp only [go_sem, seval, Bool.or_self, List.length_set, Int.natCast_zero, Int.cast_ofNat_Int, hr1, hc2]
  rintro v5 l4 hi5 h -
  rcases (drop_cases a0 v5 hi5).symm with ⟨hi5', _, hd8⟩ | ⟨x8, hi5', hx6, hd8⟩
  · rw [hd8] at h
    simp only [locks_Edges_L1] at h
    refine Wk_seq (Wk_regionZ fun Z hZ => ?_)
    simp only [go_sem, seval, hi5']
    refine hZ _ (pp (Wk_seq ?_))
    try simp only [Int.ofNat_lt, hi5', if_true, if_false] at h
    refine Wk_cond_f rfl (Wk_exit (pp ?_))
    unfold locks_Edges_J1 at h
    refine Wk_seq ?_
    obtain ⟨r18, hr16, h⟩ := Option.bind_eq_some_iff.1 h
    refine Wk_regionZ fun Z hZ => ?_
    simp only [go_sem, seval, hr16, len_slices_SortFunc_2int_locks_Edges_1 N l4 r18 hr16]
    refine hZ _ (pp (Wk_seq ?_))
    obtain ⟨r19, hr17, h⟩ := Option.bind_eq_some_iff.1 h
    refine Wk_regionZ fun Z hZ => ?_
    simp only [go_sem, seval, List.take_of_length_le (Nat.le_of_eq (len_slices_SortFunc_2int_locks_Edges_1 N l4 r18 hr16)), hr17]
    refine hZ _ (pp (Wk_ret (pp ?_)))
    obtain rfl := Option.some.inj h
    simp only [go_sem, seval]
    exact ⟨_, rfl, RokI.h, PureI.h⟩
  rw [hd8] at h
  simp only [locks_Edges_L1] at h
  have hw7 := wrap_succ hi5' hl3
  refine Wk_seq (Wk_regionZ fun Z hZ => ?_)
  simp only [go_sem, seval, hi5']
  refine hZ _ (pp (Wk_seq ?_))
  try simp only [Int.ofNat_lt, hi5', if_true, if_false] at h
  refine Wk_cond_t rfl (Wk_skip (pp (Wk_seq (Wk_block (Wk_seq ?_)))))
  try rw [gx_nat hx6] at h
  refine Wk_regionZ fun Z hZ => ?_
  simp only [go_sem, seval, hx6, hi5']
  refine hZ _ (pp (Wk_seq (Wk_regionZ fun Z hZ => ?_)))
  simp only [go_sem, seval]
  refine hZ _ (pp (Wk_block (Wk_real fun hreal10 => ?_)))
  have hl9 := hreal10.lenT 18 (by decide) (by simp only [go_sem, seval]; rfl)
  first | rw [List.length_map] at hl9 | rw [mxR_len] at hl9 | rw [← List.map_append, List.length_map] at hl9
  refine Wk_range (fun (v12 : Nat) (b : List Arr2_i64) => ⟨tab 37 (updT (updT (updT (updT (updT (updT (updT (updT deadT 3 (.pal 30 [] 0 b.length none)) 5 (.pref 5 [] 0 0)) 11 (.sl false none 4 none (a0.map Lock.row))) 12 (.val (.int .i64 ((a0.length : Nat) : Int)))) 13 (.val (.int .i64 ((v5 : Nat) : Int)))) 18 (.sl false none 1 none (x8.Waiters.map (rowI .i64)))) 19 (.val (.int .i64 ((x8.Waiters.length : Nat) : Int)))) 20 (.val (.int .i64 ((v12 : Nat) : Int)))), (upd (upd RZ 5 (.sl true none 4 (some 1) [Lock.row x8])) 30 (.sl true none 2 none (b.map Arr2_i64.row)))⟩) l4 h ?_ ?_
  · refine weak_roots ?_ ?_ <;> repeat' first | exact xn | exact rn | refine xc ?_ ?_ | refine rc ?_ ?_ ?_ | rfl | simp only [go_sem, seval, Bool.or_self, List.length_set, Int.natCast_zero, Int.cast_ofNat_Int, hr1, hc2, hx6, hi5', hw7]
  rintro v12 l11 hi11 h -
  rcases (drop_cases x8.Waiters v12 hi11).symm with ⟨hi11', _, hd14⟩ | ⟨x15, hi11', hx12, hd14⟩
  · rw [hd14] at h
    simp only [locks_Edges_L2] at h
    refine Wk_seq (Wk_regionZ fun Z hZ => ?_)
    simp only [go_sem, seval, hi11']
    refine hZ _ (pp (Wk_seq ?_))
    try simp only [Int.ofNat_lt, hi5', hi11', if_true, if_false] at h
    refine Wk_cond_f rfl (Wk_exit (pp (Wk_regionZ fun Z hZ => ?_)))
    simp only [go_sem, seval, hw7]
    refine hZ _ (pp ?_)
    first | refine ⟨l11, ?_, h⟩ | refine ⟨hi5', l11, ?_, h⟩
    refine weak_roots ?_ ?_ <;> repeat' first | exact xn | exact rn | refine xc ?_ ?_ | refine rc ?_ ?_ ?_ | rfl | simp only [go_sem, seval, Bool.or_self, List.length_set, Int.natCast_zero, Int.cast_ofNat_Int, hr1, hc2, hx6, hi5', hw7, hi11']
  rw [hd14] at h
  simp only [locks_Edges_L2] at h
  have hw13 := wrap_succ hi11' hl9
  refine Wk_seq (Wk_regionZ fun Z hZ => ?_)
  simp only [go_sem, seval, hi11']
  refine hZ _ (pp (Wk_seq ?_))
  try simp only [Int.ofNat_lt, hi5', hi11', if_true, if_false] at h
  refine Wk_cond_t rfl (Wk_skip (pp (Wk_seq (Wk_block (Wk_seq ?_)))))
  try rw [gx_nat hx12] at h
  refine Wk_regionZ fun Z hZ => ?_
  simp only [go_sem, seval, hx12, hi11']
  refine hZ _ (pp ?_)
  obtain ⟨ha15, h⟩ := apx_some h
  simp only [List.length_cons, List.length_nil, Nat.zero_add, Nat.reduceAdd] at ha15
  refine Wk_regionZ fun Z hZ => ?_
  simp only [go_sem, seval, ha15]
  refine hZ _ (pp (Wk_regionZ fun Z hZ => ?_))
  simp only [go_sem, seval, hw13]
  refine hZ _ (pp ?_)
  first | refine ⟨(l11 ++ [(Arr2_i64.mk x15 x8.Owner)]), ?_, h⟩ | refine ⟨hi11', (l11 ++ [(Arr2_i64.mk x15 x8.Owner)]), ?_, h⟩
  refine weak_roots ?_ ?_ <;> repeat' first | exact xn | exact rn | refine xc ?_ ?_ | refine rc ?_ ?_ ?_ | rfl | simp only [go_sem, seval]
noncomputable def fs_locks_Edges (N : Nat) : FnS := ⟨[], true, fn1 (decL 4 Lock.dec) fun q0 => (locks_Edges N q0).map fun r => .sl false none 2 none (r.map Arr2_i64.row), false⟩
attribute [go_sem] fs_locks_Edges
theorem fs_locks_Edges_ok (N : Nat) : FSOk Try.prog 20 (fs_locks_Edges N) := ok1 (fun q0 r h => by
  obtain ⟨r', hr, rfl⟩ := Option.map_eq_some_iff.1 h
  exact (w_locks_Edges N q0 r' hr).res (by (try simp only [go_sem]); exact RokI.h)) (fun h => decL_le Lock.dec_le h)

noncomputable def fso_locks_Edges (N : Nat) : FnS := ⟨[], true, fn1 (decL 4 Lock.dec) fun q0 => (locks_Edges N q0).map fun r => .sl true none 2 none (r.map Arr2_i64.row), false⟩
attribute [go_sem] fso_locks_Edges
theorem fso_locks_Edges_ok (N : Nat) : FSOk Try.prog 20 (fso_locks_Edges N) := ok1 (fun q0 r h => by
  obtain ⟨r', hr, rfl⟩ := Option.map_eq_some_iff.1 h
  exact w_locks_Edges N q0 r' hr) (fun h => decL_le Lock.dec_le h)


theorem w_locks_Withdraw_1 (N : Nat) (a0 : Int) (c0_0 : Int) (r : Bool) (h : locks_Withdraw_1 N a0 c0_0 = some r) : Con Try.prog 40 [] true [.val (.int .i64 a0), .iref 1 [[.val (.int .i64 c0_0)]] 0 0] (.val (.bool r)) := by
  refine fun_ok4 (G := (glist [])) Try.func40 rfl (by decide) (by kernel_rfl) gn [] mix (Nat.le_of_ble_eq_true rfl) ?_
  simp only [Try.f40]
  unfold locks_Withdraw_1 at h
  refine Wk_seq (Wk_regionZ fun Z hZ => ?_)
  simp only [go_sem, seval]
  refine hZ _ (pp (Wk_seq (Wk_regionZ fun Z hZ => ?_)))
  simp only [go_sem, seval]
  refine hZ _ (pp (Wk_ret (pp ?_)))
  cases h
  simp only [go_sem, seval]
  exact ⟨_, rfl, RokI.h, PureI.h⟩
def fs_locks_Withdraw_1 (N : Nat) : FnS := { own := [], pure := true, fn := fun cs => match cs with
  | [c0, .iref 1 [[c1_0]] 0 0] => ((decI .i64) c0).bind fun qc0 => ((decI .i64) c1_0).bind fun qc1_0 => (locks_Withdraw_1 N qc0 qc1_0).map fun r => .val (.bool r)
  | _ => none }
attribute [go_sem] fs_locks_Withdraw_1
theorem fs_locks_Withdraw_1_ok (N : Nat) : FSOk Try.prog 40 (fs_locks_Withdraw_1 N) := by
  refine ⟨fun cs r h => ?_, fun h => by cases h⟩
  simp only [fs_locks_Withdraw_1] at h
  split at h
  · simp only [Option.bind_eq_some_iff, Option.map_eq_some_iff] at h
    obtain ⟨q0, h0, q1, h1, r', hr, rfl⟩ := h
    exact ((w_locks_Withdraw_1 N q0 q1 r' hr).args (LeL.cons (decI_le h0) (LeL.cons (Le.iref1 (LeL.cons (decI_le h1) (LeL.nil))) (LeL.nil))))
  · cases h


noncomputable def G_slices_IndexFunc_int_locks_Withdraw_1 (N d f : Nat) : Option FnS := glist [(16, 40, fs_locks_Withdraw_1 N)] d f
attribute [go_sem] G_slices_IndexFunc_int_locks_Withdraw_1
theorem w_slices_IndexFunc_int_locks_Withdraw_1 (N : Nat) (a0 : (List Int)) (k1_0_0 : Int) (r : Int) (h : slices_IndexFunc_int_locks_Withdraw_1 N a0 k1_0_0 = some r) : Con Try.prog 60 [] true [.sl false none 1 none (a0.map (rowI .i64)), .clo 40 [.iref 1 [[.val (.int .i64 k1_0_0)]] 0 0]] (.val (.int .i64 r)) := by
  refine fun_ok4 (G := (G_slices_IndexFunc_int_locks_Withdraw_1 N)) Try.func60 rfl (by decide) (by kernel_rfl) (gc 16 (fs_locks_Withdraw_1_ok N) gn) [] mix (Nat.le_of_ble_eq_true rfl) ?_
  simp only [Try.f60]
  unfold slices_IndexFunc_int_locks_Withdraw_1 at h
  refine Wk_seq (Wk_regionZ fun Z hZ => ?_)
  simp only [go_sem, seval]
  refine hZ _ (pp (Wk_seq (Wk_seq (Wk_regionZ fun Z hZ => ?_))))
  simp only [go_sem, seval]
  refine hZ _ (pp (Wk_block (Wk_real fun hreal2 => ?_)))
  have hl1 := hreal2.lenT 0 (by decide) (by simp only [go_sem, seval]; rfl)
  first | rw [List.length_map] at hl1 | rw [mxR_len] at hl1 | rw [← List.map_append, List.length_map] at hl1
  refine Wk_range (fun (v2 : Nat) (b : Unit) => ⟨tab 19 (updT (updT (updT (updT deadT 0 (.sl false none 1 none (a0.map (rowI .i64)))) 1 (.clo 40 [.iref 1 [[.val (.int .i64 k1_0_0)]] 0 0])) 7 (.val (.int .i64 ((a0.length : Nat) : Int)))) 8 (.val (.int .i64 ((v2 : Nat) : Int)))), RZ⟩) () h ?_ ?_
  · refine weak_roots ?_ ?_ <;> repeat' first | exact xn | exact rn | refine xc ?_ ?_ | refine rc ?_ ?_ ?_ | rfl
  rintro v2 ⟨⟩ hi3 h -
  rcases (drop_cases a0 v2 hi3).symm with ⟨hi3', _, hd6⟩ | ⟨x5, hi3', hx4, hd6⟩
  · rw [hd6] at h
    simp only [slices_IndexFunc_int_locks_Withdraw_1_L1] at h
    refine Wk_seq (Wk_regionZ fun Z hZ => ?_)
    simp only [go_sem, seval, hi3']
    refine hZ _ (pp (Wk_seq ?_))
    try simp only [Int.ofNat_lt, hi3', if_true, if_false] at h
    refine Wk_cond_f rfl (Wk_exit (pp (Wk_seq (Wk_regionZ fun Z hZ => ?_))))
    simp only [go_sem, seval]
    refine hZ _ (pp (Wk_ret (pp ?_)))
    cases h
    simp only [go_sem, seval]
    exact ⟨_, rfl, RokI.h, PureI.h⟩
  rw [hd6] at h
  simp only [slices_IndexFunc_int_locks_Withdraw_1_L1] at h
  have hw5 := wrap_succ hi3' hl1
  refine Wk_seq (Wk_regionZ fun Z hZ => ?_)
  simp only [go_sem, seval, hi3']
  refine hZ _ (pp (Wk_seq ?_))
  try simp only [Int.ofNat_lt, hi3', if_true, if_false] at h
  refine Wk_cond_t rfl (Wk_skip (pp (Wk_seq (Wk_block (Wk_seq (Wk_regionZ fun Z hZ => ?_))))))
  simp only [go_sem, seval]
  refine hZ _ (pp (Wk_seq ?_))
  try rw [gx_nat hx4] at h
  obtain ⟨r1, hr7, h⟩ := Option.bind_eq_some_iff.1 h
  refine Wk_regionZ fun Z hZ => ?_
  simp only [go_sem, seval, hx4, hi3', hr7]
  refine hZ _ (pp (Wk_cond_bool rfl (fun hc8 => ?_) (fun hc8 => ?_)))
  · rw [if_pos hc8] at h
    refine Wk_seq (Wk_regionZ fun Z hZ => ?_)
    simp only [go_sem, seval, hc8]
    refine hZ _ (pp (Wk_ret (pp ?_)))
    cases h
    simp only [go_sem, seval]
    exact ⟨_, rfl, RokI.h, PureI.h⟩
  rw [if_neg (ne_true_of_eq_false hc8)] at h
  refine Wk_skip (pp (Wk_regionZ fun Z hZ => ?_))
  simp only [go_sem, seval, hw5, hc8]
  refine hZ _ (pp ?_)
  first | refine ⟨(), ?_, h⟩ | refine ⟨hi3', (), ?_, h⟩
  refine weak_roots ?_ ?_ <;> repeat' first | exact xn | exact rn | refine xc ?_ ?_ | refine rc ?_ ?_ ?_ | rfl
def fs_slices_IndexFunc_int_locks_Withdraw_1 (N : Nat) : FnS := { own := [], pure := true, fn := fun cs => match cs with
  | [c0, .clo 40 [.iref 1 [[k1_0_0]] 0 0]] => ((decL 1 (dec1 (decI .i64))) c0).bind fun qc0 => ((decI .i64) k1_0_0).bind fun qk1_0_0 => (slices_IndexFunc_int_locks_Withdraw_1 N qc0 qk1_0_0).map fun r => .val (.int .i64 r)
  | _ => none }
attribute [go_sem] fs_slices_IndexFunc_int_locks_Withdraw_1
theorem fs_slices_IndexFunc_int_locks_Withdraw_1_ok (N : Nat) : FSOk Try.prog 60 (fs_slices_IndexFunc_int_locks_Withdraw_1 N) := by
  refine ⟨fun cs r h => ?_, fun h => by cases h⟩
  simp only [fs_slices_IndexFunc_int_locks_Withdraw_1] at h
  split at h
  · simp only [Option.bind_eq_some_iff, Option.map_eq_some_iff] at h
    obtain ⟨q0, h0, q1, h1, r', hr, rfl⟩ := h
    exact ((w_slices_IndexFunc_int_locks_Withdraw_1 N q0 q1 r' hr).args (LeL.cons (decL_le (decI1_le .i64) h0) (LeL.cons (Le.clo (LeL.cons (Le.iref1 (LeL.cons (decI_le h1) (LeL.nil))) (LeL.nil))) (LeL.nil))))
  · cases h


noncomputable def G_slices_DeleteFunc_int_locks_Withdraw_1 (N d f : Nat) : Option FnS := glist [(10, 60, fs_slices_IndexFunc_int_locks_Withdraw_1 N), (28, 40, fs_locks_Withdraw_1 N)] d f
attribute [go_sem] G_slices_DeleteFunc_int_locks_Withdraw_1
theorem w_slices_DeleteFunc_int_locks_Withdraw_1 (N : Nat) (a0 : (List Int)) (k1_0_0 : Int) (r : (List Int)) (h : slices_DeleteFunc_int_locks_Withdraw_1 N a0 k1_0_0 = some r) : Con Try.prog 39 [true, false] true [.sl true none 1 none (a0.map (rowI .i64)), .clo 40 [.iref 1 [[.val (.int .i64 k1_0_0)]] 0 0]] (.sl true none 1 none (r.map (rowI .i64))) := by
  refine fun_own5 (G := (G_slices_DeleteFunc_int_locks_Withdraw_1 N)) (L := noL) Try.func39 rfl (by decide) (by kernel_rfl) (gc 10 (fs_slices_IndexFunc_int_locks_Withdraw_1_ok N) (gc 28 (fs_locks_Withdraw_1_ok N) gn)) (fun _ _ _ h => by cases h) [] mix (Nat.le_of_ble_eq_true rfl) ?_
  rw [show entryF [true, false] [.sl true none 1 none (a0.map (rowI .i64)), .clo 40 [.iref 1 [[.val (.int .i64 k1_0_0)]] 0 0]] = (updT (updT deadT 0 (.pal 0 [] 0 a0.length none)) 1 (.clo 40 [.iref 1 [[.val (.int .i64 k1_0_0)]] 0 0])) from by funext t; match t with | 0 => simp [entryF, entryTmp, viewD, updT] | 1 => rfl | t + 2 => rfl]
  rw [show R0 [true, false] [.sl true none 1 none (a0.map (rowI .i64)), .clo 40 [.iref 1 [[.val (.int .i64 k1_0_0)]] 0 0]] = upd RZ 0 (.sl true none 1 none (a0.map (rowI .i64))) from by funext t; match t with | 0 => rfl | 1 => rfl | t + 2 => rfl]
  simp only [Try.f39]
  unfold slices_DeleteFunc_int_locks_Withdraw_1 at h
  refine Wk_seq (Wk_regionZ fun Z hZ => ?_)
  simp only [go_sem, seval]
  refine hZ _ (pp (Wk_seq ?_))
  obtain ⟨r1, hr1, h⟩ := Option.bind_eq_some_iff.1 h
  refine Wk_regionZ fun Z hZ => ?_
  simp only [go_sem, seval, hr1]
  refine hZ _ (pp (Wk_seq (Wk_seq (Wk_regionZ fun Z hZ => ?_))))
  simp only [go_sem, seval]
  refine hZ _ (pp (Wk_cond_dec rfl (fun hc2 => ?_) (fun hc2 => ?_)))
  · have hc2d := decide_eq_true hc2
    rw [if_pos hc2] at h
    refine Wk_seq (Wk_regionZ fun Z hZ => ?_)
    simp only [go_sem, seval, hc2d]
    refine hZ _ (pp (Wk_ret (pp ?_)))
    cases h
    simp only [go_sem, seval, FinO_ret]
    exact ⟨_, rfl, RokI.h, KeepI.h, PureI.h⟩
  have hc2d := decide_eq_false hc2
  rw [if_neg hc2] at h
  refine Wk_skip (pp (Wk_seq (Wk_seq (Wk_regionZ fun Z hZ => ?_))))
  simp only [go_sem, seval, hc2d]
  refine hZ _ (pp (Wk_block (Wk_fuel (fun (b : List Int × Int × Int) => ⟨tab 42 (updT (updT (updT (updT deadT 0 (.pal 0 [] 0 b.1.length none)) 1 (.clo 40 [.iref 1 [[.val (.int .i64 k1_0_0)]] 0 0])) 5 (.val (.int .i64 b.2.1))) 6 (.val (.int .i64 b.2.2))), (upd RZ 0 (.sl true none 1 none (b.1.map (rowI .i64))))⟩) (a0, r1, IntKind.i64.wrap (r1 + 1)) h ?_ ?_)))
  · refine weak_roots ?_ ?_ <;> repeat' first | exact xn | exact rn | refine xc ?_ ?_ | refine rc ?_ ?_ ?_ | rfl | simp only [go_sem, seval, Bool.or_self, List.length_set, Int.natCast_zero, Int.cast_ofNat_Int, hr1, hc2d]
  rintro n ⟨l4, v5, v6⟩ h -
  cases n with
  | zero => simp [slices_DeleteFunc_int_locks_Withdraw_1_L1] at h
  | succ n =>
  simp only [slices_DeleteFunc_int_locks_Withdraw_1_L1] at h
  refine Wk_seq (Wk_seq (Wk_regionZ fun Z hZ => ?_))
  simp only [go_sem, seval]
  refine hZ _ (pp (sw (Wk_cond_dec rfl) (fun hc3 => ?_) (fun hc3 => ?_)))
  · have hc3d := decide_eq_false hc3
    rw [if_neg hc3] at h
    refine Wk_exit (pp ?_)
    unfold slices_DeleteFunc_int_locks_Withdraw_1_J1 at h
    refine Wk_seq ?_
    obtain ⟨hs12, h⟩ := slx_some h
    try simp only [Int.toNat_natCast] at hs12 h
    refine Wk_regionZ fun Z hZ => ?_
    simp only [go_sem, seval, hc3d, hs12, Nat.zero_le, clr_rows (row := (rowI .i64)) (z := 0) (rz := [.val (.int .i64 0)]) (k := (v5).toNat) (l := l4) (by have := hs12; omega) rfl, altX, clearX, rewritten, RowOk.allD (rowI_ok .i64)]
    refine hZ _ (pp (Wk_seq ?_))
    obtain ⟨hs13, h⟩ := slx_some h
    try simp only [Int.toNat_zero] at hs13 h
    refine Wk_regionZ fun Z hZ => ?_
    simp only [go_sem, seval, hs12, Nat.sub_zero, deepV, hs13]
    refine hZ _ (pp (Wk_ret (pp ?_)))
    cases h
    simp only [go_sem, seval, FinO_ret]
    exact ⟨_, rfl, RokI.h, KeepI.h, PureI.h⟩
  have hc3d := decide_eq_true hc3
  rw [if_pos hc3] at h
  refine Wk_skip (pp (Wk_seq (Wk_block (Wk_seq ?_))))
  obtain ⟨x13, hb4, hx5, h⟩ := gx_some h
  refine Wk_regionZ fun Z hZ => ?_
  simp only [go_sem, seval, hb4, hx5]
  refine hZ _ (pp (Wk_seq ?_))
  obtain ⟨r14, hr6, h⟩ := Option.bind_eq_some_iff.1 h
  refine Wk_regionZ fun Z hZ => ?_
  simp only [go_sem, seval, hr6]
  refine hZ _ (pp (sw (Wk_cond_nbool rfl) (fun hc7 => ?_) (fun hc7 => ?_)))
  · rw [if_pos hc7] at h
    refine Wk_skip (pp (Wk_regionZ fun Z hZ => ?_))
    simp only [go_sem, seval, hc7]
    refine hZ _ (pp (⟨_, Nat.lt_succ_self _, (l4, v5, IntKind.i64.wrap (v6 + 1)), ?_, h⟩))
    refine weak_roots ?_ ?_ <;> repeat' first | exact xn | exact rn | refine xc ?_ ?_ | refine rc ?_ ?_ ?_ | rfl | simp only [go_sem, seval, Bool.or_self, List.length_set, Int.natCast_zero, Int.cast_ofNat_Int, hr1, hc2d, hc3d, hb4, hx5, hr6, hc7]
  rw [if_neg (ne_true_of_eq_false hc7)] at h
  refine Wk_seq ?_
  obtain ⟨x15, hb8, hx9, h⟩ := gx_some h
  have hx11 := set_get (y := x13) hx9
  refine Wk_regionZ fun Z hZ => ?_
  simp only [go_sem, seval, hc7, hb8, hx9, map_modify2 (row := (rowI .i64)) (y := x13) (rx := [.val (.int .i64 x15)]) (ry := [.val (.int .i64 x13)]) hx9 rfl rfl]
  refine hZ _ (pp (Wk_regionZ fun Z hZ => ?_))
  simp only [go_sem, seval]
  refine hZ _ (pp (Wk_regionZ fun Z hZ => ?_))
  simp only [go_sem, seval]
  refine hZ _ (pp (⟨_, Nat.lt_succ_self _, ((l4.set ((v5).toNat) x13), IntKind.i64.wrap (v5 + 1), IntKind.i64.wrap (v6 + 1)), ?_, h⟩))
  refine weak_roots ?_ ?_ <;> repeat' first | exact xn | exact rn | refine xc ?_ ?_ | refine rc ?_ ?_ ?_ | rfl | simp only [go_sem, seval, List.length_set]
def fso_slices_DeleteFunc_int_locks_Withdraw_1 (N : Nat) : FnS := { own := [true, false], pure := true, fn := fun cs => match cs with
  | [c0, .clo 40 [.iref 1 [[k1_0_0]] 0 0]] => ((decO 1 (dec1 (decI .i64))) c0).bind fun q0 => ((decI .i64) k1_0_0).bind fun q1 => (slices_DeleteFunc_int_locks_Withdraw_1 N q0 q1).map fun r => .sl true none 1 none (r.map (rowI .i64))
  | _ => none }
theorem fso_slices_DeleteFunc_int_locks_Withdraw_1_own (N : Nat) : (fso_slices_DeleteFunc_int_locks_Withdraw_1 N).own = [true, false] := rfl
theorem fso_slices_DeleteFunc_int_locks_Withdraw_1_pure (N : Nat) : (fso_slices_DeleteFunc_int_locks_Withdraw_1 N).pure = true := rfl
theorem fso_slices_DeleteFunc_int_locks_Withdraw_1_peek (N : Nat) : (fso_slices_DeleteFunc_int_locks_Withdraw_1 N).peek = false := rfl
attribute [go_sem] fso_slices_DeleteFunc_int_locks_Withdraw_1 fso_slices_DeleteFunc_int_locks_Withdraw_1_own fso_slices_DeleteFunc_int_locks_Withdraw_1_pure fso_slices_DeleteFunc_int_locks_Withdraw_1_peek
theorem fso_slices_DeleteFunc_int_locks_Withdraw_1_ok (N : Nat) : FSOk Try.prog 39 (fso_slices_DeleteFunc_int_locks_Withdraw_1 N) := by
  refine ⟨fun cs r h => ?_, fun h => by cases h⟩
  simp only [fso_slices_DeleteFunc_int_locks_Withdraw_1] at h
  split at h
  · simp only [Option.bind_eq_some_iff, Option.map_eq_some_iff] at h
    obtain ⟨q0, h0, q1, h1, r', hr, rfl⟩ := h
    exact (w_slices_DeleteFunc_int_locks_Withdraw_1 N q0 q1 r' hr).argsO rfl (argsO_own (decO_ok (rowI_ok .i64) (decI1_le .i64) h0) (argsO_le (Le.clo (LeL.cons (Le.iref1 (LeL.cons (decI_le h1) (LeL.nil))) (LeL.nil))) (argsO_nil)))
  · cases h


noncomputable def G_locks_Withdraw (N d f : Nat) : Option FnS := glist [(8, 21, fs_locks_Valid N), (11, 27, fsd_locks_clone N), (25, 39, fso_slices_DeleteFunc_int_locks_Withdraw_1 N)] d f
attribute [go_sem] G_locks_Withdraw
theorem w_locks_Withdraw (N : Nat) (a0 : (List Lock)) (a1 : Int) (r : (List Lock)) (h : locks_Withdraw N a0 a1 = some r) : Con Try.prog 17 [] false [.sl false none 4 none (a0.map Lock.row), .val (.int .i64 a1)] (.sl true none 4 none (r.map Lock.rowD)) := by
  refine fun_ok4 (G := (G_locks_Withdraw N)) Try.func17 rfl (by decide) (by kernel_rfl) (gc 8 (fs_locks_Valid_ok N) (gc 11 (fsd_locks_clone_ok N) (gc 25 (fso_slices_DeleteFunc_int_locks_Withdraw_1_ok N) gn))) [] mix (Nat.le_of_ble_eq_true rfl) ?_
  simp only [Try.f17]
  unfold locks_Withdraw at h
  refine Wk_seq (Wk_regionZ fun Z hZ => ?_)
  simp only [go_sem, seval]
  refine hZ _ (pp (Wk_seq (Wk_seq ?_)))
  obtain ⟨r1, hr1, h⟩ := Option.bind_eq_some_iff.1 h
  refine Wk_regionZ fun Z hZ => ?_
  simp only [go_sem, seval, hr1]
  refine hZ _ (pp (Wk_cond_nbool rfl (fun hc2 => ?_) (fun hc2 => ?_)))
  · rw [if_neg (ne_true_of_eq_false hc2)] at h
    refine Wk_seq (Wk_regionZ fun Z hZ => ?_)
    simp only [go_sem, seval, hc2]
    refine hZ _ (pp (Wk_ret (pp ?_)))
    cases h
    simp only [go_sem, seval]
    exact ⟨_, rfl, RokI.h⟩
  rw [if_pos hc2] at h
  refine Wk_skip (pp (Wk_seq ?_))
  obtain ⟨r2, hr3, h⟩ := Option.bind_eq_some_iff.1 h
  refine Wk_regionZ fun Z hZ => ?_
  simp only [go_sem, seval, hc2, hr3]
  refine hZ _ (pp (Wk_seq (Wk_seq (Wk_regionZ fun Z hZ => ?_))))
  simp only [go_sem, seval]
  refine hZ _ (pp (Wk_block (Wk_real fun hreal5 => ?_)))
  have hl4 := hreal5.lenX 11 (by simp only [go_sem, seval]; rfl)
  first | rw [List.length_map] at hl4 | rw [mxR_len] at hl4 | rw [← List.map_append, List.length_map] at hl4
  refine Wk_count (fun (v6 : Nat) (b : List Lock) => ⟨tab 30 (updT (updT (updT (updT deadT 3 (.pref 3 [] 0 0)) 5 (.pal 11 [] 0 b.length none)) 13 (.val (.int .i64 ((r2.length : Nat) : Int)))) 14 (.val (.int .i64 ((v6 : Nat) : Int)))), (upd (upd RZ 3 (.sl true none 1 (some 1) [[.val (.int .i64 a1)]])) 11 (.sl true none 4 none (b.map Lock.rowD)))⟩) r2 h ?_ ?_
  · refine weak_roots ?_ ?_ <;> repeat' first | exact xn | exact rn | refine xc ?_ ?_ | refine rc ?_ ?_ ?_ | rfl | simp only [go_sem, seval, Bool.or_self, List.length_set, Int.natCast_zero, Int.cast_ofNat_Int, hr1, hc2, hr3]
  rintro v6 l5 _ h -
  rcases (count_cases r2.length v6).symm with ⟨hi6', hd9⟩ | ⟨hi6', hd9⟩
  · rw [hd9] at h
    simp only [locks_Withdraw_L1] at h
    refine Wk_seq (Wk_regionZ fun Z hZ => ?_)
    simp only [go_sem, seval, hi6']
    refine hZ _ (pp (Wk_seq ?_))
    try simp only [Int.ofNat_lt, hi6', if_true, if_false] at h
    refine Wk_cond_f rfl (Wk_exit (pp (Wk_seq (Wk_regionZ fun Z hZ => ?_))))
    simp only [go_sem, seval]
    refine hZ _ (pp (Wk_ret (pp ?_)))
    cases h
    simp only [go_sem, seval]
    exact ⟨_, rfl, RokI.h⟩
  rw [hd9] at h
  simp only [locks_Withdraw_L1] at h
  have hw8 := wrap_succ hi6' hl4
  refine Wk_seq (Wk_regionZ fun Z hZ => ?_)
  simp only [go_sem, seval, hi6']
  refine hZ _ (pp (Wk_seq ?_))
  try simp only [Int.ofNat_lt, hi6', if_true, if_false] at h
  refine Wk_cond_t rfl (Wk_skip (pp (Wk_seq (Wk_block (Wk_seq (Wk_regionZ fun Z hZ => ?_))))))
  simp only [go_sem, seval]
  refine hZ _ (pp ?_)
  obtain ⟨x3, hb10, hx11, h⟩ := gx_some h
  try simp only [Int.toNat_natCast] at hx11
  try simp only [Int.ofNat_lt, Int.natCast_nonneg, true_and] at hb10
  obtain ⟨r4, hr12, h⟩ := Option.bind_eq_some_iff.1 h
  refine Wk_regionZ fun Z hZ => ?_
  simp only [go_sem, seval, hb10, hx11, over_of (row := Lock.rowD) (rx := [.val (.string x3.Actor.Type_), .val (.string x3.Actor.Key), .val (.int .i64 x3.Owner), .sl true none 1 none (x3.Waiters.map (rowI .i64))]) hx11 rfl rfl, over_get (row := Lock.rowD) _ hx11, over_mod (row := Lock.rowD) hx11 rfl, hr12]
  refine hZ _ (pp (Wk_regionZ fun Z hZ => ?_))
  simp only [go_sem, seval, hw8]
  refine hZ _ (pp ?_)
  first | refine ⟨(l5.set v6 (Lock.mk x3.Actor x3.Owner r4)), ?_, h⟩ | refine ⟨hi6', (l5.set v6 (Lock.mk x3.Actor x3.Owner r4)), ?_, h⟩
  refine Weak.trans (weak_foldD (n := 11) (Lock.mk x3.Actor x3.Owner r4) (by simp only [go_sem, seval]; rfl) rfl rfl) ?_
  refine weak_roots ?_ ?_ <;> repeat' first | exact xn | exact rn | refine xc ?_ ?_ | refine rc ?_ ?_ ?_ | rfl | simp only [go_sem, seval, Bool.or_self, List.length_set]
def fs_locks_Withdraw (N : Nat) : FnS := ⟨[], false, fn2 (decL 4 Lock.dec) (decI .i64) fun q0 q1 => (locks_Withdraw N q0 q1).map fun r => .sl false none 4 none (r.map Lock.row), false⟩
attribute [go_sem] fs_locks_Withdraw
theorem fs_locks_Withdraw_ok (N : Nat) : FSOk Try.prog 17 (fs_locks_Withdraw N) := ok2 (fun q0 q1 r h => by
  obtain ⟨r', hr, rfl⟩ := Option.map_eq_some_iff.1 h
  exact (w_locks_Withdraw N q0 q1 r' hr).res (by (try simp only [go_sem]); exact RokI.h)) (fun h => decL_le Lock.dec_le h) (decI_le)

def fso_locks_Withdraw (N : Nat) : FnS := ⟨[], false, fn2 (decL 4 Lock.dec) (decI .i64) fun q0 q1 => (locks_Withdraw N q0 q1).map fun r => .sl true none 4 none (r.map Lock.row), false⟩
attribute [go_sem] fso_locks_Withdraw
theorem fso_locks_Withdraw_ok (N : Nat) : FSOk Try.prog 17 (fso_locks_Withdraw N) := ok2 (fun q0 q1 r h => by
  obtain ⟨r', hr, rfl⟩ := Option.map_eq_some_iff.1 h
  exact (w_locks_Withdraw N q0 q1 r' hr).res (by (try simp only [go_sem]); exact RokI.h)) (fun h => decL_le Lock.dec_le h) (decI_le)

def fsd_locks_Withdraw (N : Nat) : FnS := ⟨[], false, fn2 (decL 4 Lock.dec) (decI .i64) fun q0 q1 => (locks_Withdraw N q0 q1).map fun r => .sl true none 4 none (r.map Lock.rowD), false⟩
attribute [go_sem] fsd_locks_Withdraw
theorem fsd_locks_Withdraw_ok (N : Nat) : FSOk Try.prog 17 (fsd_locks_Withdraw N) := ok2 (fun q0 q1 r h => by
  obtain ⟨r', hr, rfl⟩ := Option.map_eq_some_iff.1 h
  exact w_locks_Withdraw N q0 q1 r' hr) (fun h => decL_le Lock.dec_le h) (decI_le)


noncomputable def G_law31_awake (N d f : Nat) : Option FnS := glist [(10, 9, fs_locks_Acquire N), (23, 22, fs_locks_Owner N), (29, 9, fs_locks_Acquire N), (42, 9, fs_locks_Acquire N), (55, 9, fs_locks_Acquire N), (64, 12, fs_locks_Release N), (76, 21, fs_locks_Valid N), (80, 20, fs_locks_Edges N), (93, 17, fs_locks_Withdraw N)] d f
attribute [go_sem] G_law31_awake
theorem w_law31_awake (N : Nat)  (r : Bool) (h : law31_awake N  = some r) : Con Try.prog 7 [] true [] (.val (.bool r)) := by
  refine fun_ok4 (G := (G_law31_awake N)) Try.func7 rfl (by decide) (by kernel_rfl) (gc 10 (fs_locks_Acquire_ok N) (gc 23 (fs_locks_Owner_ok N) (gc 29 (fs_locks_Acquire_ok N) (gc 42 (fs_locks_Acquire_ok N) (gc 55 (fs_locks_Acquire_ok N) (gc 64 (fs_locks_Release_ok N) (gc 76 (fs_locks_Valid_ok N) (gc 80 (fs_locks_Edges_ok N) (gc 93 (fs_locks_Withdraw_ok N) gn))))))))) [] mix (Nat.le_of_ble_eq_true rfl) ?_
  simp only [Try.f7]
  unfold law31_awake at h
  refine Wk_seq (Wk_regionZ fun Z hZ => ?_)
  simp only [go_sem, seval]
  refine hZ _ (pp (Wk_seq (Wk_regionZ fun Z hZ => ?_)))
  simp only [go_sem, seval]
  refine hZ _ (pp (Wk_seq ?_))
  obtain ⟨r1, hr1, h⟩ := Option.bind_eq_some_iff.1 h
  refine Wk_regionZ fun Z hZ => ?_
  simp only [go_sem, seval, hr1]
  refine hZ _ (pp (Wk_seq ?_))
  apply Wk_join1 (fun (c6 : Bool) => ⟨tab 97 (updT (updT (updT deadT 1 (.pref 1 [] 0 0)) 2 (.sl false none 4 none (r1.1.map Lock.row))) 25 (.val (.bool c6))), (upd RZ 1 (.sl true none 2 (some 1) [[.val (.string (⟨#[65]⟩)), .val (.string (⟨#[107]⟩))]]))⟩)
  · intro hJ2
    refine Wk_regionZ fun Z hZ => ?_
    simp only [go_sem, seval]
    refine RX_guard_ndec rfl (fun hc3 => ?_) (fun hc3 => ?_)
    · have hc3d := decide_eq_false hc3
      rw [if_neg hc3] at h
      simp only [go_sem, seval, hc3d]
      refine hZ _ (pp (hJ2 _ true ?_ h))
      refine weak_roots ?_ ?_ <;> repeat' first | exact xn | exact rn | refine xc ?_ ?_ | refine rc ?_ ?_ ?_ | rfl
    have hc3d := decide_eq_true hc3
    rw [if_pos hc3] at h
    simp only [go_sem, seval, hc3d]
    refine RX_guard_ndec rfl (fun hc4 => ?_) (fun hc4 => ?_)
    · have hc4d := decide_eq_false hc4
      rw [if_neg hc4] at h
      simp only [go_sem, seval, hc4d]
      refine hZ _ (pp (hJ2 _ true ?_ h))
      refine weak_roots ?_ ?_ <;> repeat' first | exact xn | exact rn | refine xc ?_ ?_ | refine rc ?_ ?_ ?_ | rfl
    have hc4d := decide_eq_true hc4
    rw [if_pos hc4] at h
    obtain ⟨r7, hr5, h⟩ := Option.bind_eq_some_iff.1 h
    simp only [go_sem, seval, hc4d, hr5]
    refine hZ _ (pp (hJ2 _ (!decide (r7 = 5)) ?_ h))
    refine weak_roots ?_ ?_ <;> repeat' first | exact xn | exact rn | refine xc ?_ ?_ | refine rc ?_ ?_ ?_ | rfl
  intro c6 h
  unfold law31_awake_J1 at h
  refine Wk_cond_bool rfl (fun hc6 => ?_) (fun hc6 => ?_)
  · rw [if_pos hc6] at h
    refine Wk_seq (Wk_regionZ fun Z hZ => ?_)
    simp only [go_sem, seval, hc6]
    refine hZ _ (pp (Wk_ret (pp ?_)))
    cases h
    simp only [go_sem, seval]
    exact ⟨_, rfl, RokI.h, PureI.h⟩
  rw [if_neg (ne_true_of_eq_false hc6)] at h
  refine Wk_skip (pp ?_)
  unfold law31_awake_J8 at h
  refine Wk_seq ?_
  obtain ⟨r8, hr7, h⟩ := Option.bind_eq_some_iff.1 h
  refine Wk_regionZ fun Z hZ => ?_
  simp only [go_sem, seval, hc6, hr7]
  refine hZ _ (pp (Wk_seq ?_))
  apply Wk_join1 (fun (c11 : Bool) => ⟨tab 97 (updT (updT (updT deadT 1 (.pref 1 [] 0 0)) 2 (.sl false none 4 none (r8.1.map Lock.row))) 38 (.val (.bool c11))), (upd RZ 1 (.sl true none 2 (some 1) [[.val (.string (⟨#[65]⟩)), .val (.string (⟨#[107]⟩))]]))⟩)
  · intro hJ8
    refine Wk_regionZ fun Z hZ => ?_
    simp only [go_sem, seval]
    refine RX_guard_ndec rfl (fun hc9 => ?_) (fun hc9 => ?_)
    · have hc9d := decide_eq_false hc9
      rw [if_neg hc9] at h
      simp only [go_sem, seval, hc9d]
      refine hZ _ (pp (hJ8 _ true ?_ h))
      refine weak_roots ?_ ?_ <;> repeat' first | exact xn | exact rn | refine xc ?_ ?_ | refine rc ?_ ?_ ?_ | rfl
    have hc9d := decide_eq_true hc9
    rw [if_pos hc9] at h
    simp only [go_sem, seval, hc9d]
    refine hZ _ (pp (hJ8 _ (!decide (r8.2.1 = 2)) ?_ h))
    refine weak_roots ?_ ?_ <;> repeat' first | exact xn | exact rn | refine xc ?_ ?_ | refine rc ?_ ?_ ?_ | rfl
  intro c11 h
  unfold law31_awake_J2 at h
  refine Wk_cond_bool rfl (fun hc10 => ?_) (fun hc10 => ?_)
  · rw [if_pos hc10] at h
    refine Wk_seq (Wk_regionZ fun Z hZ => ?_)
    simp only [go_sem, seval, hc10]
    refine hZ _ (pp (Wk_ret (pp ?_)))
    cases h
    simp only [go_sem, seval]
    exact ⟨_, rfl, RokI.h, PureI.h⟩
  rw [if_neg (ne_true_of_eq_false hc10)] at h
  refine Wk_skip (pp ?_)
  unfold law31_awake_J7 at h
  refine Wk_seq ?_
  obtain ⟨r12, hr11, h⟩ := Option.bind_eq_some_iff.1 h
  refine Wk_regionZ fun Z hZ => ?_
  simp only [go_sem, seval, hc10, hr11]
  refine hZ _ (pp (Wk_seq ?_))
  apply Wk_join1 (fun (c15 : Bool) => ⟨tab 97 (updT (updT (updT deadT 1 (.pref 1 [] 0 0)) 2 (.sl false none 4 none (r8.1.map Lock.row))) 51 (.val (.bool c15))), (upd RZ 1 (.sl true none 2 (some 1) [[.val (.string (⟨#[65]⟩)), .val (.string (⟨#[107]⟩))]]))⟩)
  · intro hJ12
    refine Wk_regionZ fun Z hZ => ?_
    simp only [go_sem, seval]
    refine RX_guard_ndec rfl (fun hc13 => ?_) (fun hc13 => ?_)
    · have hc13d := decide_eq_false hc13
      rw [if_neg hc13] at h
      simp only [go_sem, seval, hc13d]
      refine hZ _ (pp (hJ12 _ true ?_ h))
      refine weak_roots ?_ ?_ <;> repeat' first | exact xn | exact rn | refine xc ?_ ?_ | refine rc ?_ ?_ ?_ | rfl
    have hc13d := decide_eq_true hc13
    rw [if_pos hc13] at h
    simp only [go_sem, seval, hc13d]
    refine hZ _ (pp (hJ12 _ (!decide (r12.2.1 = 3)) ?_ h))
    refine weak_roots ?_ ?_ <;> repeat' first | exact xn | exact rn | refine xc ?_ ?_ | refine rc ?_ ?_ ?_ | rfl
  intro c15 h
  unfold law31_awake_J3 at h
  refine Wk_cond_bool rfl (fun hc14 => ?_) (fun hc14 => ?_)
  · rw [if_pos hc14] at h
    refine Wk_seq (Wk_regionZ fun Z hZ => ?_)
    simp only [go_sem, seval, hc14]
    refine hZ _ (pp (Wk_ret (pp ?_)))
    cases h
    simp only [go_sem, seval]
    exact ⟨_, rfl, RokI.h, PureI.h⟩
  rw [if_neg (ne_true_of_eq_false hc14)] at h
  refine Wk_skip (pp ?_)
  unfold law31_awake_J6 at h
  refine Wk_seq ?_
  obtain ⟨r16, hr15, h⟩ := Option.bind_eq_some_iff.1 h
  refine Wk_regionZ fun Z hZ => ?_
  simp only [go_sem, seval, hc14, hr15]
  refine hZ _ (pp (Wk_seq (Wk_seq (Wk_regionZ fun Z hZ => ?_))))
  simp only [go_sem, seval]
  refine hZ _ (pp (Wk_cond_ndec rfl (fun hc16 => ?_) (fun hc16 => ?_)))
  · have hc16d := decide_eq_false hc16
    rw [if_neg hc16] at h
    refine Wk_seq (Wk_regionZ fun Z hZ => ?_)
    simp only [go_sem, seval, hc16d]
    refine hZ _ (pp (Wk_ret (pp ?_)))
    cases h
    simp only [go_sem, seval]
    exact ⟨_, rfl, RokI.h, PureI.h⟩
  have hc16d := decide_eq_true hc16
  rw [if_pos hc16] at h
  refine Wk_skip (pp (Wk_seq ?_))
  obtain ⟨r17, hr17, h⟩ := Option.bind_eq_some_iff.1 h
  refine Wk_regionZ fun Z hZ => ?_
  simp only [go_sem, seval, hc16d, hr17]
  refine hZ _ (pp (Wk_seq ?_))
  apply Wk_join1 (fun (c22 : Bool) => ⟨tab 97 (updT (updT deadT 2 (.sl false none 4 none (r17.1.map Lock.row))) 78 (.val (.bool c22))), RZ⟩)
  · intro hJ18
    refine Wk_regionZ fun Z hZ => ?_
    simp only [go_sem, seval]
    refine RX_guard_ndec rfl (fun hc19 => ?_) (fun hc19 => ?_)
    · have hc19d := decide_eq_false hc19
      rw [if_neg hc19] at h
      simp only [go_sem, seval, hc19d]
      refine hZ _ (pp (hJ18 _ true ?_ h))
      refine weak_roots ?_ ?_ <;> repeat' first | exact xn | exact rn | refine xc ?_ ?_ | refine rc ?_ ?_ ?_ | rfl
    have hc19d := decide_eq_true hc19
    rw [if_pos hc19] at h
    simp only [go_sem, seval, hc19d]
    refine RX_guard_ndec rfl (fun hc20 => ?_) (fun hc20 => ?_)
    · have hc20d := decide_eq_false hc20
      rw [if_neg hc20] at h
      simp only [go_sem, seval, hc20d]
      refine hZ _ (pp (hJ18 _ true ?_ h))
      refine weak_roots ?_ ?_ <;> repeat' first | exact xn | exact rn | refine xc ?_ ?_ | refine rc ?_ ?_ ?_ | rfl
    have hc20d := decide_eq_true hc20
    rw [if_pos hc20] at h
    obtain ⟨r23, hr21, h⟩ := Option.bind_eq_some_iff.1 h
    simp only [go_sem, seval, hc20d, hr21]
    refine hZ _ (pp (hJ18 _ (!r23) ?_ h))
    refine weak_roots ?_ ?_ <;> repeat' first | exact xn | exact rn | refine xc ?_ ?_ | refine rc ?_ ?_ ?_ | rfl
  intro c22 h
  unfold law31_awake_J4 at h
  refine Wk_cond_bool rfl (fun hc22 => ?_) (fun hc22 => ?_)
  · rw [if_pos hc22] at h
    refine Wk_seq (Wk_regionZ fun Z hZ => ?_)
    simp only [go_sem, seval, hc22]
    refine hZ _ (pp (Wk_ret (pp ?_)))
    cases h
    simp only [go_sem, seval]
    exact ⟨_, rfl, RokI.h, PureI.h⟩
  rw [if_neg (ne_true_of_eq_false hc22)] at h
  refine Wk_skip (pp ?_)
  unfold law31_awake_J5 at h
  refine Wk_seq ?_
  obtain ⟨r24, hr23, h⟩ := Option.bind_eq_some_iff.1 h
  refine Wk_regionZ fun Z hZ => ?_
  simp only [go_sem, seval, hc22, hr23]
  refine hZ _ (pp (Wk_seq (Wk_regionZ fun Z hZ => ?_)))
  simp only [go_sem, seval]
  refine sw (RX_guard_dec rfl) (fun hc24 => ?_) (fun hc24 => ?_)
  · have hc24d := decide_eq_false hc24
    rw [if_neg hc24] at h
    simp only [go_sem, seval, hc24d]
    refine hZ _ (pp (Wk_ret (pp ?_)))
    cases h
    simp only [go_sem, seval]
    exact ⟨_, rfl, RokI.h, PureI.h⟩
  have hc24d := decide_eq_true hc24
  rw [if_pos hc24] at h
  obtain ⟨x25, hb25, hx26, h⟩ := gx_some h
  try simp only [Int.toNat_zero] at hx26
  try simp only [Int.ofNat_lt, Int.natCast_nonneg, true_and] at hb25
  simp only [go_sem, seval, hc24d, hb25, hx26]
  refine RX_guard_bool rfl (fun hc27 => ?_) (fun hc27 => ?_)
  · rw [if_pos hc27] at h
    obtain ⟨r26, hr28, h⟩ := Option.bind_eq_some_iff.1 h
    simp only [go_sem, seval, hc27, hr28]
    refine hZ _ (pp (Wk_ret (pp ?_)))
    cases h
    simp only [go_sem, seval]
    exact ⟨_, rfl, RokI.h, PureI.h⟩
  rw [if_neg (ne_true_of_eq_false hc27)] at h
  simp only [go_sem, seval, hc27]
  refine hZ _ (pp (Wk_ret (pp ?_)))
  cases h
  simp only [go_sem, seval]
  exact ⟨_, rfl, RokI.h, PureI.h⟩
noncomputable def fs_law31_awake (N : Nat) : FnS := { own := [], pure := true, fn := fun cs => match cs with
  | [] =>  (law31_awake N ).map fun r => .val (.bool r)
  | _ => none }
attribute [go_sem] fs_law31_awake
theorem fs_law31_awake_ok (N : Nat) : FSOk Try.prog 7 (fs_law31_awake N) := by
  refine ⟨fun cs r h => ?_, fun h => by cases h⟩
  simp only [fs_law31_awake] at h
  split at h
  · simp only [Option.map_eq_some_iff] at h
    obtain ⟨r', hr, rfl⟩ := h
    exact ((w_law31_awake N  r' hr).args (LeL.nil))
  · cases h


theorem w_law31_ref (N : Nat) (a0 : Int) (r : Ref) (h : law31_ref N a0 = some r) : Con Try.prog 8 [] true [.val (.int .u8 a0)] (.agg (Ref.row r)) := by
  refine fun_ok4 (G := (glist [])) Try.func8 rfl (by decide) (by kernel_rfl) gn [] mix (Nat.le_of_ble_eq_true rfl) ?_
  simp only [Try.f8]
  unfold law31_ref at h
  refine Wk_seq (Wk_regionZ fun Z hZ => ?_)
  simp only [go_sem, seval]
  refine hZ _ (pp (Wk_seq (Wk_regionZ fun Z hZ => ?_)))
  simp only [go_sem, seval]
  refine hZ _ (pp (Wk_seq ?_))
  obtain ⟨hs1, h⟩ := sls_some h
  simp only [ByteArray.size, List.size_toArray, List.length_cons, List.length_nil, Nat.reduceAdd] at hs1
  refine Wk_regionZ fun Z hZ => ?_
  simp only [go_sem, seval, hs1]
  refine hZ _ (pp (Wk_ret (pp ?_)))
  cases h
  simp only [go_sem, seval]
  exact ⟨_, rfl, RokI.h, PureI.h⟩
def fs_law31_ref (N : Nat) : FnS := ⟨[], true, fn1 (decI .u8) fun q0 => (law31_ref N q0).map fun r => .agg (Ref.row r), false⟩
attribute [go_sem] fs_law31_ref
theorem fs_law31_ref_ok (N : Nat) : FSOk Try.prog 8 (fs_law31_ref N) := ok1 (fun q0 r h => by
  obtain ⟨r', hr, rfl⟩ := Option.map_eq_some_iff.1 h
  exact w_law31_ref N q0 r' hr) (decI_le)


theorem w_ref14_ValidRef (N : Nat) (a0 : Ref) (r : Bool) (h : ref14_ValidRef N a0 = some r) : Con Try.prog 31 [] true [.agg [.val (.string a0.Type_), .val (.string a0.Key)]] (.val (.bool r)) := by
  refine fun_ok4 (G := (glist [])) Try.func31 rfl (by decide) (by kernel_rfl) gn [] mix (Nat.le_of_ble_eq_true rfl) ?_
  simp only [Try.f31]
  unfold ref14_ValidRef at h
  refine Wk_seq (Wk_regionZ fun Z hZ => ?_)
  simp only [go_sem, seval]
  refine hZ _ (pp (Wk_seq (Wk_regionZ fun Z hZ => ?_)))
  simp only [go_sem, seval]
  refine sw (RX_guard_dec rfl) (fun hc1 => ?_) (fun hc1 => ?_)
  · have hc1d := decide_eq_false hc1
    rw [if_neg hc1] at h
    simp only [go_sem, seval, hc1d]
    refine hZ _ (pp (Wk_ret (pp ?_)))
    cases h
    simp only [go_sem, seval]
    exact ⟨_, rfl, RokI.h, PureI.h⟩
  have hc1d := decide_eq_true hc1
  rw [if_pos hc1] at h
  simp only [go_sem, seval, hc1d]
  refine RX_guard_dec rfl (fun hc2 => ?_) (fun hc2 => ?_)
  · have hc2d := decide_eq_true hc2
    rw [if_pos hc2] at h
    simp only [go_sem, seval, hc2d]
    refine hZ _ (pp (Wk_ret (pp ?_)))
    cases h
    simp only [go_sem, seval]
    exact ⟨_, rfl, RokI.h, PureI.h⟩
  have hc2d := decide_eq_false hc2
  rw [if_neg hc2] at h
  simp only [go_sem, seval, hc2d]
  refine hZ _ (pp (Wk_ret (pp ?_)))
  cases h
  simp only [go_sem, seval]
  exact ⟨_, rfl, RokI.h, PureI.h⟩
def fs_ref14_ValidRef (N : Nat) : FnS := ⟨[], true, fn1 Ref.decA fun q0 => (ref14_ValidRef N q0).map fun r => .val (.bool r), false⟩
attribute [go_sem] fs_ref14_ValidRef
theorem fs_ref14_ValidRef_ok (N : Nat) : FSOk Try.prog 31 (fs_ref14_ValidRef N) := ok1 (fun q0 r h => by
  obtain ⟨r', hr, rfl⟩ := Option.map_eq_some_iff.1 h
  exact w_ref14_ValidRef N q0 r' hr) (Ref.decA_le)


theorem w_ref29_isTxn (N : Nat) (a0 : Int) (r : Bool) (h : ref29_isTxn N a0 = some r) : Con Try.prog 32 [] true [.val (.int .i64 a0)] (.val (.bool r)) := by
  refine fun_ok4 (G := (glist [])) Try.func32 rfl (by decide) (by kernel_rfl) gn [] mix (Nat.le_of_ble_eq_true rfl) ?_
  simp only [Try.f32]
  unfold ref29_isTxn at h
  refine Wk_seq (Wk_regionZ fun Z hZ => ?_)
  simp only [go_sem, seval]
  refine hZ _ (pp (Wk_seq (Wk_regionZ fun Z hZ => ?_)))
  simp only [go_sem, seval]
  refine RX_guard_dec rfl (fun hc1 => ?_) (fun hc1 => ?_)
  · have hc1d := decide_eq_true hc1
    rw [if_pos hc1] at h
    simp only [go_sem, seval, hc1d]
    refine hZ _ (pp (Wk_ret (pp ?_)))
    cases h
    simp only [go_sem, seval]
    exact ⟨_, rfl, RokI.h, PureI.h⟩
  have hc1d := decide_eq_false hc1
  rw [if_neg hc1] at h
  simp only [go_sem, seval, hc1d]
  refine hZ _ (pp (Wk_ret (pp ?_)))
  cases h
  simp only [go_sem, seval]
  exact ⟨_, rfl, RokI.h, PureI.h⟩
def fs_ref29_isTxn (N : Nat) : FnS := ⟨[], true, fn1 (decI .i64) fun q0 => (ref29_isTxn N q0).map fun r => .val (.bool r), false⟩
attribute [go_sem] fs_ref29_isTxn
theorem fs_ref29_isTxn_ok (N : Nat) : FSOk Try.prog 32 (fs_ref29_isTxn N) := ok1 (fun q0 r h => by
  obtain ⟨r', hr, rfl⟩ := Option.map_eq_some_iff.1 h
  exact w_ref29_isTxn N q0 r' hr) (decI_le)


theorem w_ref14_Less (N : Nat) (a0 : Ref) (a1 : Ref) (r : Bool) (h : ref14_Less N a0 a1 = some r) : Con Try.prog 58 [] true [.agg [.val (.string a0.Type_), .val (.string a0.Key)], .agg [.val (.string a1.Type_), .val (.string a1.Key)]] (.val (.bool r)) := by
  refine fun_ok4 (G := (glist [])) Try.func58 rfl (by decide) (by kernel_rfl) gn [] mix (Nat.le_of_ble_eq_true rfl) ?_
  simp only [Try.f58]
  unfold ref14_Less at h
  refine Wk_seq (Wk_regionZ fun Z hZ => ?_)
  simp only [go_sem, seval]
  refine hZ _ (pp (Wk_seq (Wk_regionZ fun Z hZ => ?_)))
  simp only [go_sem, seval]
  refine RX_guard_bool rfl (fun hc1 => ?_) (fun hc1 => ?_)
  · rw [if_pos hc1] at h
    simp only [go_sem, seval, hc1]
    refine hZ _ (pp (Wk_ret (pp ?_)))
    cases h
    simp only [go_sem, seval]
    exact ⟨_, rfl, RokI.h, PureI.h⟩
  rw [if_neg (ne_true_of_eq_false hc1)] at h
  simp only [go_sem, seval, hc1]
  refine RX_guard_bool rfl (fun hc2 => ?_) (fun hc2 => ?_)
  · rw [if_pos hc2] at h
    simp only [go_sem, seval, hc2]
    refine hZ _ (pp (Wk_ret (pp ?_)))
    cases h
    simp only [go_sem, seval]
    exact ⟨_, rfl, RokI.h, PureI.h⟩
  rw [if_neg (ne_true_of_eq_false hc2)] at h
  simp only [go_sem, seval, hc2]
  refine hZ _ (pp (Wk_ret (pp ?_)))
  cases h
  simp only [go_sem, seval]
  exact ⟨_, rfl, RokI.h, PureI.h⟩
def fs_ref14_Less (N : Nat) : FnS := ⟨[], true, fn2 Ref.decA Ref.decA fun q0 q1 => (ref14_Less N q0 q1).map fun r => .val (.bool r), false⟩
attribute [go_sem] fs_ref14_Less
theorem fs_ref14_Less_ok (N : Nat) : FSOk Try.prog 58 (fs_ref14_Less N) := ok2 (fun q0 q1 r h => by
  obtain ⟨r', hr, rfl⟩ := Option.map_eq_some_iff.1 h
  exact w_ref14_Less N q0 q1 r' hr) (Ref.decA_le) (Ref.decA_le)


noncomputable def G_ref29_ValidLocks (N d f : Nat) : Option FnS := glist [(21, 31, fs_ref14_ValidRef N), (26, 32, fs_ref29_isTxn N), (47, 58, fs_ref14_Less N)] d f
attribute [go_sem] G_ref29_ValidLocks
theorem w_ref29_ValidLocks (N : Nat) (a0 : (List Lock)) (r : Bool) (h : ref29_ValidLocks N a0 = some r) : Con Try.prog 30 [] true [.sl false none 4 none (a0.map Lock.row)] (.val (.bool r)) := by
  refine fun_ok4 (G := (G_ref29_ValidLocks N)) Try.func30 rfl (by decide) (by kernel_rfl) (gc 21 (fs_ref14_ValidRef_ok N) (gc 26 (fs_ref29_isTxn_ok N) (gc 47 (fs_ref14_Less_ok N) gn))) [] mix (Nat.le_of_ble_eq_true rfl) ?_
  simp only [Try.f30]
  unfold ref29_ValidLocks at h
  refine Wk_seq (Wk_regionZ fun Z hZ => ?_)
  simp only [go_sem, seval]
  refine hZ _ (pp (Wk_seq (Wk_seq (Wk_regionZ fun Z hZ => ?_))))
  simp only [go_sem, seval]
  refine hZ _ (pp (Wk_cond_dec rfl (fun hc1 => ?_) (fun hc1 => ?_)))
  · have hc1d := decide_eq_true hc1
    rw [if_pos hc1] at h
    refine Wk_seq (Wk_regionZ fun Z hZ => ?_)
    simp only [go_sem, seval, hc1d]
    refine hZ _ (pp (Wk_ret (pp ?_)))
    cases h
    simp only [go_sem, seval]
    exact ⟨_, rfl, RokI.h, PureI.h⟩
  have hc1d := decide_eq_false hc1
  rw [if_neg hc1] at h
  refine Wk_skip (pp (Wk_seq (Wk_seq (Wk_regionZ fun Z hZ => ?_))))
  simp only [go_sem, seval, hc1d]
  refine hZ _ (pp (Wk_block (Wk_real fun hreal3 => ?_)))
  have hl2 := hreal3.lenT 0 (by decide) (by simp only [go_sem, seval]; rfl)
  first | rw [List.length_map] at hl2 | rw [mxR_len] at hl2 | rw [← List.map_append, List.length_map] at hl2
  refine Wk_range (fun (v3 : Nat) (b : Unit) => ⟨tab 92 (updT (updT deadT 0 (.sl false none 4 none (a0.map Lock.row))) 3 (.val (.int .i64 ((v3 : Nat) : Int)))), RZ⟩) () h ?_ ?_
  · refine weak_roots ?_ ?_ <;> repeat' first | exact xn | exact rn | refine xc ?_ ?_ | refine rc ?_ ?_ ?_ | rfl
  rintro v3 ⟨⟩ hi4 h -
  rcases (drop_cases a0 v3 hi4).symm with ⟨hi4', _, hd7⟩ | ⟨x6, hi4', hx5, hd7⟩
  · rw [hd7] at h
    simp only [ref29_ValidLocks_L1] at h
    refine Wk_seq (Wk_seq (Wk_regionZ fun Z hZ => ?_))
    simp only [go_sem, seval, hi4']
    refine hZ _ (pp ?_)
    try simp only [Int.ofNat_lt, hi4', if_true, if_false] at h
    refine Wk_cond_f rfl (Wk_exit (pp (Wk_seq (Wk_regionZ fun Z hZ => ?_))))
    simp only [go_sem, seval]
    refine hZ _ (pp (Wk_ret (pp ?_)))
    cases h
    simp only [go_sem, seval]
    exact ⟨_, rfl, RokI.h, PureI.h⟩
  rw [hd7] at h
  simp only [ref29_ValidLocks_L1] at h
  have hw6 := wrap_succ hi4' hl2
  refine Wk_seq (Wk_seq (Wk_regionZ fun Z hZ => ?_))
  simp only [go_sem, seval, hi4']
  refine hZ _ (pp ?_)
  try simp only [Int.ofNat_lt, hi4', if_true, if_false] at h
  refine Wk_cond_t rfl (Wk_skip (pp (Wk_seq (Wk_block (Wk_seq ?_)))))
  try rw [gx_nat hx5] at h
  refine Wk_regionZ fun Z hZ => ?_
  simp only [go_sem, seval, hx5, hi4']
  refine hZ _ (pp (Wk_seq ?_))
  apply Wk_join1 (fun (c11 : Bool) => ⟨tab 92 (updT (updT (updT (updT deadT 0 (.sl false none 4 none (a0.map Lock.row))) 3 (.val (.int .i64 ((v3 : Nat) : Int)))) 4 (.pref 4 [] 0 0)) 50 (.val (.bool c11))), (upd RZ 4 (.sl true none 4 (some 1) [Lock.row x6]))⟩)
  · intro hJ8
    obtain ⟨r12, hr9, h⟩ := Option.bind_eq_some_iff.1 h
    refine Wk_regionD fun Z hZ => ?_
    simp only [go_sem, seval, hr9]
    repeat with_reducible refine and_bar (by kernel_rfl) ?_
    refine RX_guard_nbool rfl (fun hc10 => ?_) (fun hc10 => ?_)
    · rw [if_neg (ne_true_of_eq_false hc10)] at h
      simp only [go_sem, seval, hc10]
      refine hZ _ (by kernel_rfl) (pp (hJ8 _ true ?_ h))
      refine weak_roots ?_ ?_ <;> repeat' first | exact xn | exact rn | refine xc ?_ ?_ | refine rc ?_ ?_ ?_ | rfl
    rw [if_pos hc10] at h
    obtain ⟨r13, hr11, h⟩ := Option.bind_eq_some_iff.1 h
    simp only [go_sem, seval, hc10, hr11]
    repeat with_reducible refine and_bar (by kernel_rfl) ?_
    refine RX_guard_nbool rfl (fun hc12 => ?_) (fun hc12 => ?_)
    · rw [if_neg (ne_true_of_eq_false hc12)] at h
      simp only [go_sem, seval, hc12]
      refine hZ _ (by kernel_rfl) (pp (hJ8 _ true ?_ h))
      refine weak_roots ?_ ?_ <;> repeat' first | exact xn | exact rn | refine xc ?_ ?_ | refine rc ?_ ?_ ?_ | rfl
    rw [if_pos hc12] at h
    simp only [go_sem, seval, hc12]
    repeat with_reducible refine and_bar (by kernel_rfl) ?_
    refine RX_guard_dec rfl (fun hc13 => ?_) (fun hc13 => ?_)
    · have hc13d := decide_eq_true hc13
      rw [if_pos hc13] at h
      simp only [go_sem, seval, hc13d]
      refine hZ _ (by kernel_rfl) (pp (hJ8 _ true ?_ h))
      refine weak_roots ?_ ?_ <;> repeat' first | exact xn | exact rn | refine xc ?_ ?_ | refine rc ?_ ?_ ?_ | rfl
    have hc13d := decide_eq_false hc13
    rw [if_neg hc13] at h
    simp only [go_sem, seval, hc13d]
    refine RX_guard_dec rfl (fun hc14 => ?_) (fun hc14 => ?_)
    · have hc14d := decide_eq_true hc14
      rw [if_pos hc14] at h
      obtain ⟨x14, hb15, hx16, h⟩ := gx_some h
      obtain ⟨r15, hr17, h⟩ := Option.bind_eq_some_iff.1 h
      simp only [go_sem, seval, hc14d, hb15, hx16, hr17]
      repeat with_reducible refine and_bar (by kernel_rfl) ?_
      refine hZ _ (by kernel_rfl) (pp (hJ8 _ (!r15) ?_ h))
      refine weak_roots ?_ ?_ <;> repeat' first | exact xn | exact rn | refine xc ?_ ?_ | refine rc ?_ ?_ ?_ | rfl
    have hc14d := decide_eq_false hc14
    rw [if_neg hc14] at h
    simp only [go_sem, seval, hc14d]
    refine hZ _ (by kernel_rfl) (pp (hJ8 _ false ?_ h))
    refine weak_roots ?_ ?_ <;> repeat' first | exact xn | exact rn | refine xc ?_ ?_ | refine rc ?_ ?_ ?_ | rfl
  intro c11 h
  unfold ref29_ValidLocks_J1 at h
  refine Wk_cond_bool rfl (fun hc18 => ?_) (fun hc18 => ?_)
  · rw [if_pos hc18] at h
    refine Wk_seq (Wk_regionZ fun Z hZ => ?_)
    simp only [go_sem, seval, hc18]
    refine hZ _ (pp (Wk_ret (pp ?_)))
    cases h
    simp only [go_sem, seval]
    exact ⟨_, rfl, RokI.h, PureI.h⟩
  rw [if_neg (ne_true_of_eq_false hc18)] at h
  refine Wk_skip (pp ?_)
  unfold ref29_ValidLocks_J3 at h
  refine Wk_seq (Wk_regionZ fun Z hZ => ?_)
  simp only [go_sem, seval, hc18]
  refine hZ _ (pp (Wk_block (Wk_real fun hreal20 => ?_)))
  have hl19 := hreal20.cell 4 3 (by simp only [go_sem, seval]; rfl) rfl
  first | rw [List.length_map] at hl19 | rw [mxR_len] at hl19 | rw [← List.map_append, List.length_map] at hl19
  refine Wk_range (fun (v16 : Nat) (b : Unit) => ⟨tab 92 (updT (updT (updT (updT deadT 0 (.sl false none 4 none (a0.map Lock.row))) 3 (.val (.int .i64 ((v3 : Nat) : Int)))) 4 (.pref 4 [] 0 0)) 5 (.val (.int .i64 ((v16 : Nat) : Int)))), (upd RZ 4 (.sl true none 4 (some 1) [Lock.row x6]))⟩) () h ?_ ?_
  · refine weak_roots ?_ ?_ <;> repeat' first | exact xn | exact rn | refine xc ?_ ?_ | refine rc ?_ ?_ ?_ | rfl
  rintro v16 ⟨⟩ hi21 h -
  rcases (drop_cases x6.Waiters v16 hi21).symm with ⟨hi21', _, hd24⟩ | ⟨x19, hi21', hx22, hd24⟩
  · rw [hd24] at h
    simp only [ref29_ValidLocks_L2] at h
    refine Wk_seq (Wk_seq (Wk_regionZ fun Z hZ => ?_))
    simp only [go_sem, seval, hi21']
    refine hZ _ (pp ?_)
    try simp only [Int.ofNat_lt, hi4', hi21', if_true, if_false] at h
    refine Wk_cond_f rfl (Wk_exit (pp (Wk_regionZ fun Z hZ => ?_)))
    simp only [go_sem, seval, hw6]
    refine hZ _ (pp ?_)
    first | refine ⟨(), ?_, h⟩ | refine ⟨hi4', (), ?_, h⟩
    refine weak_roots ?_ ?_ <;> repeat' first | exact xn | exact rn | refine xc ?_ ?_ | refine rc ?_ ?_ ?_ | rfl
  rw [hd24] at h
  simp only [ref29_ValidLocks_L2] at h
  have hw23 := wrap_succ hi21' hl19
  refine Wk_seq (Wk_seq (Wk_regionZ fun Z hZ => ?_))
  simp only [go_sem, seval, hi21']
  refine hZ _ (pp ?_)
  try simp only [Int.ofNat_lt, hi4', hi21', if_true, if_false] at h
  refine Wk_cond_t rfl (Wk_skip (pp (Wk_seq (Wk_block ?_))))
  apply Wk_join1 (fun (c17 : Bool) => ⟨tab 92 (updT (updT (updT (updT (updT deadT 0 (.sl false none 4 none (a0.map Lock.row))) 3 (.val (.int .i64 ((v3 : Nat) : Int)))) 4 (.pref 4 [] 0 0)) 5 (.val (.int .i64 ((v16 : Nat) : Int)))) 91 (.val (.bool c17))), (upd RZ 4 (.sl true none 4 (some 1) [Lock.row x6]))⟩)
  · intro hJ25
    try rw [gx_nat hx22] at h
    refine Wk_regionD fun Z hZ => ?_
    simp only [go_sem, seval, hx22, hi21']
    refine RX_guard_dec rfl (fun hc26 => ?_) (fun hc26 => ?_)
    · have hc26d := decide_eq_true hc26
      rw [if_pos hc26] at h
      simp only [go_sem, seval, hc26d]
      refine hZ _ (by kernel_rfl) (pp (hJ25 _ true ?_ h))
      refine weak_roots ?_ ?_ <;> repeat' first | exact xn | exact rn | refine xc ?_ ?_ | refine rc ?_ ?_ ?_ | rfl
    have hc26d := decide_eq_false hc26
    rw [if_neg hc26] at h
    try rw [gx_nat hx22] at h
    simp only [go_sem, seval, hx22, hi21', hc26d]
    refine RX_guard_dec rfl (fun hc27 => ?_) (fun hc27 => ?_)
    · have hc27d := decide_eq_true hc27
      rw [if_pos hc27] at h
      simp only [go_sem, seval, hc27d]
      refine hZ _ (by kernel_rfl) (pp (hJ25 _ true ?_ h))
      refine weak_roots ?_ ?_ <;> repeat' first | exact xn | exact rn | refine xc ?_ ?_ | refine rc ?_ ?_ ?_ | rfl
    have hc27d := decide_eq_false hc27
    rw [if_neg hc27] at h
    simp only [go_sem, seval, hc27d]
    refine RX_guard_dec rfl (fun hc28 => ?_) (fun hc28 => ?_)
    · have hc28d := decide_eq_true hc28
      rw [if_pos hc28] at h
      obtain ⟨x18, hb29, hx30, h⟩ := gx_some h
      try rw [gx_nat hx22] at h
      simp only [go_sem, seval, hx22, hi21', hc28d, hb29, hx30]
      refine hZ _ (by kernel_rfl) (pp (hJ25 _ (decide (x19 ≤ x18)) ?_ h))
      refine weak_roots ?_ ?_ <;> repeat' first | exact xn | exact rn | refine xc ?_ ?_ | refine rc ?_ ?_ ?_ | rfl
    have hc28d := decide_eq_false hc28
    rw [if_neg hc28] at h
    simp only [go_sem, seval, hc28d]
    refine hZ _ (by kernel_rfl) (pp (hJ25 _ false ?_ h))
    refine weak_roots ?_ ?_ <;> repeat' first | exact xn | exact rn | refine xc ?_ ?_ | refine rc ?_ ?_ ?_ | rfl
  intro c17 h
  unfold ref29_ValidLocks_J2 at h
  refine Wk_cond_bool rfl (fun hc31 => ?_) (fun hc31 => ?_)
  · rw [if_pos hc31] at h
    refine Wk_seq (Wk_regionZ fun Z hZ => ?_)
    simp only [go_sem, seval, hc31]
    refine hZ _ (pp (Wk_ret (pp ?_)))
    cases h
    simp only [go_sem, seval]
    exact ⟨_, rfl, RokI.h, PureI.h⟩
  rw [if_neg (ne_true_of_eq_false hc31)] at h
  refine Wk_skip (pp (Wk_regionZ fun Z hZ => ?_))
  simp only [go_sem, seval, hw23, hc31]
  refine hZ _ (pp ?_)
  first | refine ⟨(), ?_, h⟩ | refine ⟨hi21', (), ?_, h⟩
  refine weak_roots ?_ ?_ <;> repeat' first | exact xn | exact rn | refine xc ?_ ?_ | refine rc ?_ ?_ ?_ | rfl
def fs_ref29_ValidLocks (N : Nat) : FnS := ⟨[], true, fn1 (decL 4 Lock.dec) fun q0 => (ref29_ValidLocks N q0).map fun r => .val (.bool r), false⟩
attribute [go_sem] fs_ref29_ValidLocks
theorem fs_ref29_ValidLocks_ok (N : Nat) : FSOk Try.prog 30 (fs_ref29_ValidLocks N) := ok1 (fun q0 r h => by
  obtain ⟨r', hr, rfl⟩ := Option.map_eq_some_iff.1 h
  exact w_ref29_ValidLocks N q0 r' hr) (fun h => decL_le Lock.dec_le h)


noncomputable def G_ref29_lockOf (N d f : Nat) : Option FnS := glist [(19, 58, fs_ref14_Less N)] d f
attribute [go_sem] G_ref29_lockOf
theorem w_ref29_lockOf (N : Nat) (a0 : (List Lock)) (a1 : Ref) (r : Int × Bool) (h : ref29_lockOf N a0 a1 = some r) : Con Try.prog 33 [] true [.sl false none 4 none (a0.map Lock.row), .agg [.val (.string a1.Type_), .val (.string a1.Key)]] (.tup [.val (.int .i64 r.1), .val (.bool r.2)]) := by
  refine fun_ok4 (G := (G_ref29_lockOf N)) Try.func33 rfl (by decide) (by kernel_rfl) (gc 19 (fs_ref14_Less_ok N) gn) [] mix (Nat.le_of_ble_eq_true rfl) ?_
  simp only [Try.f33]
  unfold ref29_lockOf at h
  refine Wk_seq (Wk_regionZ fun Z hZ => ?_)
  simp only [go_sem, seval]
  refine hZ _ (pp (Wk_seq (Wk_seq (Wk_regionZ fun Z hZ => ?_))))
  simp only [go_sem, seval]
  refine hZ _ (pp (Wk_block (Wk_real fun hreal2 => ?_)))
  have hl1 := hreal2.lenT 0 (by decide) (by simp only [go_sem, seval]; rfl)
  first | rw [List.length_map] at hl1 | rw [mxR_len] at hl1 | rw [← List.map_append, List.length_map] at hl1
  refine Wk_range (fun (v2 : Nat) (b : Unit) => ⟨tab 31 (updT (updT (updT deadT 0 (.sl false none 4 none (a0.map Lock.row))) 3 (.pref 3 [] 0 0)) 6 (.val (.int .i64 ((v2 : Nat) : Int)))), (upd RZ 3 (.sl true none 2 (some 1) [[.val (.string a1.Type_), .val (.string a1.Key)]]))⟩) () h ?_ ?_
  · refine weak_roots ?_ ?_ <;> repeat' first | exact xn | exact rn | refine xc ?_ ?_ | refine rc ?_ ?_ ?_ | rfl
  rintro v2 ⟨⟩ hi3 h -
  rcases (drop_cases a0 v2 hi3).symm with ⟨hi3', _, hd6⟩ | ⟨x5, hi3', hx4, hd6⟩
  · rw [hd6] at h
    simp only [ref29_lockOf_L1] at h
    refine Wk_seq (Wk_seq (Wk_regionZ fun Z hZ => ?_))
    simp only [go_sem, seval, hi3']
    refine hZ _ (pp ?_)
    try simp only [Int.ofNat_lt, hi3', if_true, if_false] at h
    refine Wk_cond_f rfl (Wk_exit (pp (Wk_seq (Wk_regionZ fun Z hZ => ?_))))
    simp only [go_sem, seval]
    refine hZ _ (pp (Wk_ret (pp ?_)))
    cases h
    simp only [go_sem, seval]
    exact ⟨_, rfl, RokI.h, PureI.h⟩
  rw [hd6] at h
  simp only [ref29_lockOf_L1] at h
  have hw5 := wrap_succ hi3' hl1
  refine Wk_seq (Wk_seq (Wk_regionZ fun Z hZ => ?_))
  simp only [go_sem, seval, hi3']
  refine hZ _ (pp ?_)
  try simp only [Int.ofNat_lt, hi3', if_true, if_false] at h
  refine Wk_cond_t rfl (Wk_skip (pp (Wk_seq (Wk_block (Wk_seq ?_)))))
  try rw [gx_nat hx4] at h
  obtain ⟨r1, hr7, h⟩ := Option.bind_eq_some_iff.1 h
  refine Wk_regionD fun Z hZ => ?_
  simp only [go_sem, seval, hx4, hi3', hr7]
  repeat with_reducible refine and_bar (by kernel_rfl) ?_
  refine hZ _ (by kernel_rfl) (pp (Wk_cond_nbool rfl (fun hc8 => ?_) (fun hc8 => ?_)))
  · rw [if_neg (ne_true_of_eq_false hc8)] at h
    refine Wk_seq ?_
    try rw [gx_nat hx4] at h
    refine Wk_regionD fun Z hZ => ?_
    simp only [go_sem, seval, hx4, hi3', hc8]
    refine hZ _ (by kernel_rfl) (pp (Wk_ret (pp ?_)))
    cases h
    simp only [go_sem, seval]
    exact ⟨_, rfl, RokI.h, PureI.h⟩
  rw [if_pos hc8] at h
  refine Wk_skip (pp (Wk_regionZ fun Z hZ => ?_))
  simp only [go_sem, seval, hw5, hc8]
  refine hZ _ (pp ?_)
  first | refine ⟨(), ?_, h⟩ | refine ⟨hi3', (), ?_, h⟩
  refine weak_roots ?_ ?_ <;> repeat' first | exact xn | exact rn | refine xc ?_ ?_ | refine rc ?_ ?_ ?_ | rfl
def fs_ref29_lockOf (N : Nat) : FnS := ⟨[], true, fn2 (decL 4 Lock.dec) Ref.decA fun q0 q1 => (ref29_lockOf N q0 q1).map fun r => .tup [.val (.int .i64 r.1), .val (.bool r.2)], false⟩
attribute [go_sem] fs_ref29_lockOf
theorem fs_ref29_lockOf_ok (N : Nat) : FSOk Try.prog 33 (fs_ref29_lockOf N) := ok2 (fun q0 q1 r h => by
  obtain ⟨r', hr, rfl⟩ := Option.map_eq_some_iff.1 h
  exact w_ref29_lockOf N q0 q1 r' hr) (fun h => decL_le Lock.dec_le h) (Ref.decA_le)


theorem w_ref29_CopyLocks (N : Nat) (a0 : (List Lock)) (r : (List Lock)) (h : ref29_CopyLocks N a0 = some r) : Con Try.prog 34 [] false [.sl false none 4 none (a0.map Lock.row)] (.sl true none 4 none (r.map Lock.row)) := by
  refine fun_ok4 (G := (glist [])) Try.func34 rfl (by decide) (by kernel_rfl) gn [] mix (Nat.le_of_ble_eq_true rfl) ?_
  simp only [Try.f34]
  unfold ref29_CopyLocks at h
  refine Wk_seq (Wk_regionZ fun Z hZ => ?_)
  simp only [go_sem, seval]
  refine hZ _ (pp (Wk_seq ?_))
  first | obtain ⟨ha1, h⟩ := apn_some h | (obtain ⟨ha1, h⟩ := apx_some h; rw [List.nil_append] at h)
  simp only [Nat.reduceAdd] at ha1
  refine Wk_regionZ fun Z hZ => ?_
  simp only [go_sem, seval, ha1]
  refine hZ _ (pp (Wk_seq (Wk_seq (Wk_regionZ fun Z hZ => ?_))))
  simp only [go_sem, seval]
  refine hZ _ (pp (Wk_block (Wk_fuel (fun (b : List Lock × Int) => ⟨tab 26 (updT (updT deadT 3 (.pal 7 [] 0 b.1.length none)) 4 (.val (.int .i64 b.2))), (upd RZ 7 (.sl true none 4 none (b.1.map Lock.row)))⟩) (a0, 0) h ?_ ?_)))
  · refine weak_roots ?_ ?_ <;> repeat' first | exact xn | exact rn | refine xc ?_ ?_ | refine rc ?_ ?_ ?_ | rfl | simp only [go_sem, seval, Bool.or_self, List.length_set, Int.natCast_zero, Int.cast_ofNat_Int, ha1]
  rintro n ⟨l2, v3⟩ h -
  cases n with
  | zero => simp [ref29_CopyLocks_L1] at h
  | succ n =>
  simp only [ref29_CopyLocks_L1] at h
  refine Wk_seq (Wk_seq (Wk_regionZ fun Z hZ => ?_))
  simp only [go_sem, seval]
  refine hZ _ (pp (sw (Wk_cond_dec rfl) (fun hc2 => ?_) (fun hc2 => ?_)))
  · have hc2d := decide_eq_false hc2
    rw [if_neg hc2] at h
    refine Wk_exit (pp (Wk_seq (Wk_regionZ fun Z hZ => ?_)))
    simp only [go_sem, seval, hc2d]
    refine hZ _ (pp (Wk_ret (pp ?_)))
    cases h
    simp only [go_sem, seval]
    exact ⟨_, rfl, RokI.h⟩
  have hc2d := decide_eq_true hc2
  rw [if_pos hc2] at h
  refine Wk_skip (pp (Wk_seq (Wk_block ?_)))
  obtain ⟨x1, hb3, hx4, h⟩ := gx_some h
  first | obtain ⟨ha5, h⟩ := apn_some h | (obtain ⟨ha5, h⟩ := apx_some h; rw [List.nil_append] at h)
  simp only [Nat.reduceAdd] at ha5
  refine Wk_regionZ fun Z hZ => ?_
  simp only [go_sem, seval, hb3, hx4, ha5, over_of (row := Lock.row) (rx := [.val (.string x1.Actor.Type_), .val (.string x1.Actor.Key), .val (.int .i64 x1.Owner), .sl false none 1 none (x1.Waiters.map (rowI .i64))]) hx4 rfl rfl]
  refine hZ _ (pp (Wk_regionZ fun Z hZ => ?_))
  simp only [go_sem, seval]
  refine hZ _ (pp (⟨_, Nat.lt_succ_self _, ((l2.set ((v3).toNat) x1), IntKind.i64.wrap (v3 + 1)), ?_, h⟩))
  refine Weak.trans (weak_fold (n := 7) x1 [.val (.string x1.Actor.Type_), .val (.string x1.Actor.Key), .val (.int .i64 x1.Owner), .sl false none 1 none (x1.Waiters.map (rowI .i64))] (by simp only [go_sem, seval]; rfl) rfl) ?_
  refine weak_roots ?_ ?_ <;> repeat' first | exact xn | exact rn | refine xc ?_ ?_ | refine rc ?_ ?_ ?_ | rfl | simp only [go_sem, seval, Bool.or_self, List.length_set]
def fs_ref29_CopyLocks (N : Nat) : FnS := ⟨[], false, fn1 (decL 4 Lock.dec) fun q0 => (ref29_CopyLocks N q0).map fun r => .sl false none 4 none (r.map Lock.row), false⟩
attribute [go_sem] fs_ref29_CopyLocks
theorem fs_ref29_CopyLocks_ok (N : Nat) : FSOk Try.prog 34 (fs_ref29_CopyLocks N) := ok1 (fun q0 r h => by
  obtain ⟨r', hr, rfl⟩ := Option.map_eq_some_iff.1 h
  exact (w_ref29_CopyLocks N q0 r' hr).res (by (try simp only [go_sem]); exact RokI.h)) (fun h => decL_le Lock.dec_le h)

def fso_ref29_CopyLocks (N : Nat) : FnS := ⟨[], false, fn1 (decL 4 Lock.dec) fun q0 => (ref29_CopyLocks N q0).map fun r => .sl true none 4 none (r.map Lock.row), false⟩
attribute [go_sem] fso_ref29_CopyLocks
theorem fso_ref29_CopyLocks_ok (N : Nat) : FSOk Try.prog 34 (fso_ref29_CopyLocks N) := ok1 (fun q0 r h => by
  obtain ⟨r', hr, rfl⟩ := Option.map_eq_some_iff.1 h
  exact w_ref29_CopyLocks N q0 r' hr) (fun h => decL_le Lock.dec_le h)


theorem w_ref29_Waits (N : Nat) (a0 : Lock) (a1 : Int) (r : Bool) (h : ref29_Waits N a0 a1 = some r) : Con Try.prog 35 [] true [.agg (Lock.row a0), .val (.int .i64 a1)] (.val (.bool r)) := by
  refine fun_ok4 (G := (glist [])) Try.func35 rfl (by decide) (by kernel_rfl) gn [] mix (Nat.le_of_ble_eq_true rfl) ?_
  simp only [Try.f35]
  unfold ref29_Waits at h
  refine Wk_seq (Wk_regionZ fun Z hZ => ?_)
  simp only [go_sem, seval]
  refine hZ _ (pp (Wk_seq (Wk_seq (Wk_regionZ fun Z hZ => ?_))))
  simp only [go_sem, seval]
  refine hZ _ (pp (Wk_block (Wk_real fun hreal2 => ?_)))
  have hl1 := hreal2.cell 2 3 (by simp only [go_sem, seval]; rfl) rfl
  first | rw [List.length_map] at hl1 | rw [mxR_len] at hl1 | rw [← List.map_append, List.length_map] at hl1
  refine Wk_range (fun (v2 : Nat) (b : Unit) => ⟨tab 20 (updT (updT (updT deadT 1 (.val (.int .i64 a1))) 2 (.pref 2 [] 0 0)) 5 (.val (.int .i64 ((v2 : Nat) : Int)))), (upd RZ 2 (.sl true none 4 (some 1) [Lock.row a0]))⟩) () h ?_ ?_
  · refine weak_roots ?_ ?_ <;> repeat' first | exact xn | exact rn | refine xc ?_ ?_ | refine rc ?_ ?_ ?_ | rfl
  rintro v2 ⟨⟩ hi3 h -
  rcases (drop_cases a0.Waiters v2 hi3).symm with ⟨hi3', _, hd6⟩ | ⟨x5, hi3', hx4, hd6⟩
  · rw [hd6] at h
    simp only [ref29_Waits_L1] at h
    refine Wk_seq (Wk_seq (Wk_regionZ fun Z hZ => ?_))
    simp only [go_sem, seval, hi3']
    refine hZ _ (pp ?_)
    try simp only [Int.ofNat_lt, hi3', if_true, if_false] at h
    refine Wk_cond_f rfl (Wk_exit (pp (Wk_seq (Wk_regionZ fun Z hZ => ?_))))
    simp only [go_sem, seval]
    refine hZ _ (pp (Wk_ret (pp ?_)))
    cases h
    simp only [go_sem, seval]
    exact ⟨_, rfl, RokI.h, PureI.h⟩
  rw [hd6] at h
  simp only [ref29_Waits_L1] at h
  have hw5 := wrap_succ hi3' hl1
  refine Wk_seq (Wk_seq (Wk_regionZ fun Z hZ => ?_))
  simp only [go_sem, seval, hi3']
  refine hZ _ (pp ?_)
  try simp only [Int.ofNat_lt, hi3', if_true, if_false] at h
  refine Wk_cond_t rfl (Wk_skip (pp (Wk_seq (Wk_block (Wk_seq ?_)))))
  try rw [gx_nat hx4] at h
  refine Wk_regionZ fun Z hZ => ?_
  simp only [go_sem, seval, hx4, hi3']
  refine hZ _ (pp (Wk_cond_dec rfl (fun hc7 => ?_) (fun hc7 => ?_)))
  · have hc7d := decide_eq_true hc7
    rw [if_pos hc7] at h
    refine Wk_seq (Wk_regionZ fun Z hZ => ?_)
    simp only [go_sem, seval, hc7d]
    refine hZ _ (pp (Wk_ret (pp ?_)))
    cases h
    simp only [go_sem, seval]
    exact ⟨_, rfl, RokI.h, PureI.h⟩
  have hc7d := decide_eq_false hc7
  rw [if_neg hc7] at h
  refine Wk_skip (pp (Wk_regionZ fun Z hZ => ?_))
  simp only [go_sem, seval, hw5, hc7d]
  refine hZ _ (pp ?_)
  first | refine ⟨(), ?_, h⟩ | refine ⟨hi3', (), ?_, h⟩
  refine weak_roots ?_ ?_ <;> repeat' first | exact xn | exact rn | refine xc ?_ ?_ | refine rc ?_ ?_ ?_ | rfl
def fs_ref29_Waits (N : Nat) : FnS := ⟨[], true, fn2 Lock.decA (decI .i64) fun q0 q1 => (ref29_Waits N q0 q1).map fun r => .val (.bool r), false⟩
attribute [go_sem] fs_ref29_Waits
theorem fs_ref29_Waits_ok (N : Nat) : FSOk Try.prog 35 (fs_ref29_Waits N) := ok2 (fun q0 q1 r h => by
  obtain ⟨r', hr, rfl⟩ := Option.map_eq_some_iff.1 h
  exact w_ref29_Waits N q0 q1 r' hr) (Lock.decA_le) (decI_le)


theorem w_ref29_add (N : Nat) (a0 : (List Int)) (a1 : Int) (r : (List Int)) (h : ref29_add N a0 a1 = some r) : Con Try.prog 36 [] true [.sl false none 1 none (a0.map (rowI .i64)), .val (.int .i64 a1)] (.sl true none 1 none (r.map (rowI .i64))) := by
  refine fun_ok4 (G := (glist [])) Try.func36 rfl (by decide) (by kernel_rfl) gn [] mix (Nat.le_of_ble_eq_true rfl) ?_
  simp only [Try.f36]
  unfold ref29_add at h
  refine Wk_seq (Wk_regionZ fun Z hZ => ?_)
  simp only [go_sem, seval]
  refine hZ _ (pp (Wk_seq (Wk_regionZ fun Z hZ => ?_)))
  simp only [go_sem, seval]
  refine hZ _ (pp (Wk_seq (Wk_block (Wk_fuel (fun (b : Int) => ⟨tab 33 (updT (updT (updT deadT 0 (.sl false none 1 none (a0.map (rowI .i64)))) 1 (.val (.int .i64 a1))) 5 (.val (.int .i64 b))), RZ⟩) ((a0.length : Nat) : Int) h ?_ ?_))))
  · refine weak_roots ?_ ?_ <;> repeat' first | exact xn | exact rn | refine xc ?_ ?_ | refine rc ?_ ?_ ?_ | rfl
  rintro n v2 h -
  cases n with
  | zero => simp [ref29_add_L1] at h
  | succ n =>
  simp only [ref29_add_L1] at h
  refine Wk_seq ?_
  apply Wk_join1 (fun (c8 : Bool) => ⟨tab 33 (updT (updT (updT (updT deadT 0 (.sl false none 1 none (a0.map (rowI .i64)))) 1 (.val (.int .i64 a1))) 5 (.val (.int .i64 v2))) 18 (.val (.bool c8))), RZ⟩)
  · intro hJ1
    refine Wk_regionZ fun Z hZ => ?_
    simp only [go_sem, seval]
    refine RX_guard_dec rfl (fun hc2 => ?_) (fun hc2 => ?_)
    · have hc2d := decide_eq_true hc2
      rw [if_pos hc2] at h
      obtain ⟨x9, hb3, hx4, h⟩ := gx_some h
      simp only [go_sem, seval, hc2d, hb3, hx4]
      refine hZ _ (pp (hJ1 _ (decide (a1 < x9)) ?_ h))
      refine weak_roots ?_ ?_ <;> repeat' first | exact xn | exact rn | refine xc ?_ ?_ | refine rc ?_ ?_ ?_ | rfl
    have hc2d := decide_eq_false hc2
    rw [if_neg hc2] at h
    simp only [go_sem, seval, hc2d]
    refine hZ _ (pp (hJ1 _ false ?_ h))
    refine weak_roots ?_ ?_ <;> repeat' first | exact xn | exact rn | refine xc ?_ ?_ | refine rc ?_ ?_ ?_ | rfl
  intro c8 h
  unfold ref29_add_J1 at h
  refine Wk_cond_bool rfl (fun hc5 => ?_) (fun hc5 => ?_)
  · rw [if_pos hc5] at h
    refine Wk_skip (pp (Wk_block (Wk_regionZ fun Z hZ => ?_)))
    simp only [go_sem, seval, hc5]
    refine hZ _ (pp (⟨_, Nat.lt_succ_self _, (IntKind.i64.wrap (v2 - 1)), ?_, h⟩))
    refine weak_roots ?_ ?_ <;> repeat' first | exact xn | exact rn | refine xc ?_ ?_ | refine rc ?_ ?_ ?_ | rfl
  rw [if_neg (ne_true_of_eq_false hc5)] at h
  refine Wk_exit (pp ?_)
  unfold ref29_add_J2 at h
  refine Wk_seq ?_
  obtain ⟨hs6, h⟩ := slx_some h
  try simp only [Int.toNat_zero, Nat.sub_zero, List.drop_zero] at hs6 h
  first | obtain ⟨ha7, h⟩ := apn_some h | (obtain ⟨ha7, h⟩ := apx_some h; rw [List.nil_append] at h)
  simp only [Nat.reduceAdd] at ha7
  obtain ⟨ha8, h⟩ := apx_some h
  simp only [List.length_cons, List.length_nil, Nat.zero_add, Nat.reduceAdd] at ha8
  obtain ⟨hs9, h⟩ := slx_some h
  try simp only [Int.toNat_natCast] at hs9 h
  obtain ⟨ha10, h⟩ := apx_some h
  simp only [List.length_append, List.length_cons, List.length_nil, Nat.zero_add, Nat.reduceAdd] at ha10
  refine Wk_regionH fun Y hY => ?_
  refine RX2_s rfl rfl fun Z hZ => ?_
  simp only [go_sem, seval, hc5, Nat.zero_le]
  repeat with_reducible refine and_bar (by kernel_rfl) ?_
  refine hZ _ ?_
  refine RX2_s rfl rfl fun Z hZ => ?_
  simp only [go_sem, seval]
  refine hZ _ ?_
  refine RX2_s rfl rfl fun Z hZ => ?_
  simp only [go_sem, seval]
  refine hZ _ ?_
  refine RX2_s rfl rfl fun Z hZ => ?_
  simp only [go_sem, seval, hs6, Nat.sub_zero]
  refine hZ _ ?_
  refine RX2_a fun Z hZ => ?_
  simp only [go_sem, seval, ha7]
  refine hZ _ ?_
  refine RX2_s rfl rfl fun Z hZ => ?_
  simp only [go_sem, seval]
  refine hZ _ ?_
  refine RX2_s rfl rfl fun Z hZ => ?_
  simp only [go_sem, seval]
  refine hZ _ ?_
  refine RX2_a fun Z hZ => ?_
  simp only [go_sem, seval, ha8]
  refine hZ _ ?_
  refine RX2_s rfl rfl fun Z hZ => ?_
  simp only [go_sem, seval]
  refine hZ _ ?_
  refine RX2_s rfl rfl fun Z hZ => ?_
  simp only [go_sem, seval]
  refine hZ _ ?_
  refine RX2_s rfl rfl fun Z hZ => ?_
  simp only [go_sem, seval, hs6, Nat.zero_le]
  refine hZ _ ?_
  refine RX2_a fun Z hZ => ?_
  simp only [go_sem, seval, ha10]
  refine hZ _ ?_
  refine RX2_s rfl rfl fun Z hZ => ?_
  simp only [go_sem, seval]
  refine hZ _ ?_
  refine RX2_end (by kernel_rfl) (hY _ (pp (Wk_ret (pp ?_))))
  cases h
  simp only [go_sem, seval]
  exact ⟨_, rfl, RokI.h, PureI.h⟩
def fs_ref29_add (N : Nat) : FnS := ⟨[], true, fn2 (decL 1 (dec1 (decI .i64))) (decI .i64) fun q0 q1 => (ref29_add N q0 q1).map fun r => .sl false none 1 none (r.map (rowI .i64)), false⟩
attribute [go_sem] fs_ref29_add
theorem fs_ref29_add_ok (N : Nat) : FSOk Try.prog 36 (fs_ref29_add N) := ok2 (fun q0 q1 r h => by
  obtain ⟨r', hr, rfl⟩ := Option.map_eq_some_iff.1 h
  exact (w_ref29_add N q0 q1 r' hr).res (by (try simp only [go_sem]); exact RokI.h)) (fun h => decL_le (decI1_le .i64) h) (decI_le)

def fso_ref29_add (N : Nat) : FnS := ⟨[], true, fn2 (decL 1 (dec1 (decI .i64))) (decI .i64) fun q0 q1 => (ref29_add N q0 q1).map fun r => .sl true none 1 none (r.map (rowI .i64)), false⟩
attribute [go_sem] fso_ref29_add
theorem fso_ref29_add_ok (N : Nat) : FSOk Try.prog 36 (fso_ref29_add N) := ok2 (fun q0 q1 r h => by
  obtain ⟨r', hr, rfl⟩ := Option.map_eq_some_iff.1 h
  exact w_ref29_add N q0 q1 r' hr) (fun h => decL_le (decI1_le .i64) h) (decI_le)


noncomputable def G_ref29_Acquire (N d f : Nat) : Option FnS := glist [(15, 30, fs_ref29_ValidLocks N), (19, 31, fs_ref14_ValidRef N), (24, 32, fs_ref29_isTxn N), (30, 33, fs_ref29_lockOf N), (39, 34, fs_ref29_CopyLocks N), (57, 34, fso_ref29_CopyLocks N), (74, 35, fs_ref29_Waits N), (85, 36, fs_ref29_add N)] d f
attribute [go_sem] G_ref29_Acquire
theorem w_ref29_Acquire (N : Nat) (a0 : (List Lock)) (a1 : Ref) (a2 : Int) (r : (List Lock) × Int × Int) (h : ref29_Acquire N a0 a1 a2 = some r) : Con Try.prog 10 [] false [.sl false none 4 none (a0.map Lock.row), .agg [.val (.string a1.Type_), .val (.string a1.Key)], .val (.int .i64 a2)] (.tup [.sl true none 4 none (r.1.map Lock.row), .val (.int .i64 r.2.1), .val (.int .i64 r.2.2)]) := by
  refine fun_ok4 (G := (G_ref29_Acquire N)) Try.func10 rfl (by decide) (by kernel_rfl) (gc 15 (fs_ref29_ValidLocks_ok N) (gc 19 (fs_ref14_ValidRef_ok N) (gc 24 (fs_ref29_isTxn_ok N) (gc 30 (fs_ref29_lockOf_ok N) (gc 39 (fs_ref29_CopyLocks_ok N) (gc 57 (fso_ref29_CopyLocks_ok N) (gc 74 (fs_ref29_Waits_ok N) (gc 85 (fs_ref29_add_ok N) gn)))))))) [(53, true)] mix (Nat.le_of_ble_eq_true rfl) ?_
  simp only [Try.f10]
  unfold ref29_Acquire at h
  refine Wk_seq (Wk_regionZ fun Z hZ => ?_)
  simp only [go_sem, seval]
  refine hZ _ (pp (Wk_seq ?_))
  apply Wk_join1 (fun (c9 : Bool) => ⟨tab 89 (updT (updT (updT (updT deadT 0 (.sl false none 4 none (a0.map Lock.row))) 2 (.val (.int .i64 a2))) 4 (.pref 4 [] 0 0)) 26 (.val (.bool c9))), (upd RZ 4 (.sl true none 2 (some 1) [[.val (.string a1.Type_), .val (.string a1.Key)]]))⟩)
  · intro hJ1
    obtain ⟨r10, hr2, h⟩ := Option.bind_eq_some_iff.1 h
    refine Wk_regionZ fun Z hZ => ?_
    simp only [go_sem, seval, hr2]
    refine RX_guard_nbool rfl (fun hc3 => ?_) (fun hc3 => ?_)
    · rw [if_neg (ne_true_of_eq_false hc3)] at h
      simp only [go_sem, seval, hc3]
      refine hZ _ (pp (hJ1 _ true ?_ h))
      refine weak_roots ?_ ?_ <;> repeat' first | exact xn | exact rn | refine xc ?_ ?_ | refine rc ?_ ?_ ?_ | rfl
    rw [if_pos hc3] at h
    obtain ⟨r11, hr4, h⟩ := Option.bind_eq_some_iff.1 h
    simp only [go_sem, seval, hc3, hr4]
    refine RX_guard_nbool rfl (fun hc5 => ?_) (fun hc5 => ?_)
    · rw [if_neg (ne_true_of_eq_false hc5)] at h
      simp only [go_sem, seval, hc5]
      refine hZ _ (pp (hJ1 _ true ?_ h))
      refine weak_roots ?_ ?_ <;> repeat' first | exact xn | exact rn | refine xc ?_ ?_ | refine rc ?_ ?_ ?_ | rfl
    rw [if_pos hc5] at h
    obtain ⟨r12, hr6, h⟩ := Option.bind_eq_some_iff.1 h
    simp only [go_sem, seval, hc5, hr6]
    refine hZ _ (pp (hJ1 _ (!r12) ?_ h))
    refine weak_roots ?_ ?_ <;> repeat' first | exact xn | exact rn | refine xc ?_ ?_ | refine rc ?_ ?_ ?_ | rfl
  intro c9 h
  unfold ref29_Acquire_J1 at h
  refine Wk_cond_bool rfl (fun hc7 => ?_) (fun hc7 => ?_)
  · rw [if_pos hc7] at h
    refine Wk_seq (Wk_regionZ fun Z hZ => ?_)
    simp only [go_sem, seval, hc7]
    refine hZ _ (pp (Wk_ret (pp ?_)))
    cases h
    simp only [go_sem, seval]
    exact ⟨_, rfl, RokI.h⟩
  rw [if_neg (ne_true_of_eq_false hc7)] at h
  refine Wk_skip (pp ?_)
  unfold ref29_Acquire_J2 at h
  refine Wk_seq ?_
  obtain ⟨r13, hr8, h⟩ := Option.bind_eq_some_iff.1 h
  refine Wk_regionZ fun Z hZ => ?_
  simp only [go_sem, seval, hc7, hr8]
  refine hZ _ (pp (Wk_seq (Wk_seq (Wk_regionZ fun Z hZ => ?_))))
  simp only [go_sem, seval]
  refine hZ _ (pp (sw (Wk_cond_nbool rfl) (fun hc9 => ?_) (fun hc9 => ?_)))
  · rw [if_pos hc9] at h
    refine Wk_skip (pp (Wk_seq ?_))
    obtain ⟨r15, hr18, h⟩ := Option.bind_eq_some_iff.1 h
    refine Wk_regionZ fun Z hZ => ?_
    simp only [go_sem, seval, hc9, hr18]
    refine hZ _ (pp (Wk_seq ?_))
    obtain ⟨x16, hb19, hx20, h⟩ := gx_some h
    refine Wk_regionZ fun Z hZ => ?_
    simp only [go_sem, seval, hb19, hx20]
    refine hZ _ (pp (Wk_seq (Wk_seq (Wk_regionZ fun Z hZ => ?_))))
    simp only [go_sem, seval]
    refine hZ _ (pp (Wk_cond_dec rfl (fun hc21 => ?_) (fun hc21 => ?_)))
    · have hc21d := decide_eq_true hc21
      rw [if_pos hc21] at h
      refine Wk_seq (Wk_regionZ fun Z hZ => ?_)
      simp only [go_sem, seval, hc21d]
      refine hZ _ (pp (Wk_ret (pp ?_)))
      cases h
      simp only [go_sem, seval]
      exact ⟨_, rfl, RokI.h⟩
    have hc21d := decide_eq_false hc21
    rw [if_neg hc21] at h
    refine Wk_skip (pp (Wk_seq (Wk_seq (Wk_regionZ fun Z hZ => ?_))))
    simp only [go_sem, seval, hc21d]
    refine hZ _ (pp (Wk_cond_dec rfl (fun hc22 => ?_) (fun hc22 => ?_)))
    · have hc22d := decide_eq_true hc22
      rw [if_pos hc22] at h
      refine Wk_seq (Wk_regionZ fun Z hZ => ?_)
      simp only [go_sem, seval, hc22d]
      refine hZ _ (pp (Wk_ret (pp ?_)))
      cases h
      simp only [go_sem, seval]
      exact ⟨_, rfl, RokI.h⟩
    have hc22d := decide_eq_false hc22
    rw [if_neg hc22] at h
    refine Wk_skip (pp (Wk_seq (Wk_seq ?_)))
    obtain ⟨r17, hr23, h⟩ := Option.bind_eq_some_iff.1 h
    refine Wk_regionZ fun Z hZ => ?_
    simp only [go_sem, seval, hc22d, hr23]
    refine hZ _ (pp (Wk_cond_bool rfl (fun hc24 => ?_) (fun hc24 => ?_)))
    · rw [if_pos hc24] at h
      refine Wk_seq (Wk_regionZ fun Z hZ => ?_)
      simp only [go_sem, seval, hc24]
      refine hZ _ (pp (Wk_ret (pp ?_)))
      cases h
      simp only [go_sem, seval]
      exact ⟨_, rfl, RokI.h⟩
    rw [if_neg (ne_true_of_eq_false hc24)] at h
    refine Wk_skip (pp (Wk_seq (Wk_seq (Wk_regionZ fun Z hZ => ?_))))
    simp only [go_sem, seval, hc24]
    refine hZ _ (pp (Wk_cond_dec rfl (fun hc25 => ?_) (fun hc25 => ?_)))
    · have hc25d := decide_eq_true hc25
      rw [if_pos hc25] at h
      refine Wk_seq (Wk_regionZ fun Z hZ => ?_)
      simp only [go_sem, seval, hc25d]
      refine hZ _ (pp (Wk_ret (pp ?_)))
      cases h
      simp only [go_sem, seval]
      exact ⟨_, rfl, RokI.h⟩
    have hc25d := decide_eq_false hc25
    rw [if_neg hc25] at h
    refine Wk_skip (pp (Wk_seq ?_))
    obtain ⟨r18, hr26, h⟩ := Option.bind_eq_some_iff.1 h
    have hx28 := set_get (y := (Lock.mk x16.Actor x16.Owner r18)) hx20
    refine Wk_regionZ fun Z hZ => ?_
    simp only [go_sem, seval, hb19, hx20, hc25d, hr26, map_modify2 (row := Lock.row) (y := (Lock.mk x16.Actor x16.Owner r18)) (rx := [.val (.string x16.Actor.Type_), .val (.string x16.Actor.Key), .val (.int .i64 x16.Owner), .sl false none 1 none (x16.Waiters.map (rowI .i64))]) (ry := [.val (.string x16.Actor.Type_), .val (.string x16.Actor.Key), .val (.int .i64 x16.Owner), .sl false none 1 none (r18.map (rowI .i64))]) hx20 rfl rfl]
    refine hZ _ (pp (Wk_seq (Wk_regionZ fun Z hZ => ?_)))
    simp only [go_sem, seval]
    refine hZ _ (pp (Wk_ret (pp ?_)))
    cases h
    simp only [go_sem, seval]
    exact ⟨_, rfl, RokI.h⟩
  rw [if_neg (ne_true_of_eq_false hc9)] at h
  refine Wk_seq (Wk_seq (Wk_regionZ fun Z hZ => ?_))
  simp only [go_sem, seval, hc9]
  refine hZ _ (pp (Wk_cond_dec rfl (fun hc10 => ?_) (fun hc10 => ?_)))
  · have hc10d := decide_eq_true hc10
    rw [if_pos hc10] at h
    refine Wk_seq (Wk_regionZ fun Z hZ => ?_)
    simp only [go_sem, seval, hc10d]
    refine hZ _ (pp (Wk_ret (pp ?_)))
    cases h
    simp only [go_sem, seval]
    exact ⟨_, rfl, RokI.h⟩
  have hc10d := decide_eq_false hc10
  rw [if_neg hc10] at h
  refine Wk_skip (pp (Wk_seq ?_))
  obtain ⟨r14, hr11, h⟩ := Option.bind_eq_some_iff.1 h
  refine Wk_regionZ fun Z hZ => ?_
  simp only [go_sem, seval, hc10d, hr11]
  refine hZ _ (pp (Wk_seq ?_))
  obtain ⟨hs12, h⟩ := slx_some h
  try simp only [Int.toNat_natCast] at hs12 h
  first | obtain ⟨ha13, h⟩ := apn_some h | (obtain ⟨ha13, h⟩ := apx_some h; rw [List.nil_append] at h)
  simp only [Nat.reduceAdd] at ha13
  refine Wk_regionZ fun Z hZ => ?_
  simp only [go_sem, seval, hs12, Nat.zero_le, ha13]
  refine hZ _ (pp (Wk_seq ?_))
  obtain ⟨hs14, ht15, h⟩ := slt_some h
  try simp only [Int.toNat_natCast] at hs14 ht15 h
  obtain ⟨ha16, h⟩ := apx_some h
  simp only [List.length_cons, List.length_nil, Nat.zero_add, Nat.reduceAdd] at ha16
  obtain ⟨ha17, h⟩ := apx_some h
  simp only [List.length_append, List.length_cons, List.length_nil, Nat.zero_add, Nat.reduceAdd] at ha17
  refine Wk_regionH fun Y hY => ?_
  refine RX2_s rfl rfl fun Z hZ => ?_
  simp only [go_sem, seval]
  repeat with_reducible refine and_bar (by kernel_rfl) ?_
  refine hZ _ ?_
  refine RX2_s rfl rfl fun Z hZ => ?_
  simp only [go_sem, seval]
  refine hZ _ ?_
  refine RX2_s rfl rfl fun Z hZ => ?_
  simp only [go_sem, seval]
  refine hZ _ ?_
  refine RX2_s rfl rfl fun Z hZ => ?_
  simp only [go_sem, seval, hs12, Nat.sub_zero, Nat.zero_le, Nat.le_refl]
  refine hZ _ ?_
  refine RX2_s rfl rfl fun Z hZ => ?_
  simp only [go_sem, seval, Nat.le_refl]
  refine hZ _ ?_
  refine RX2_s rfl rfl fun Z hZ => ?_
  simp only [go_sem, seval]
  refine hZ _ ?_
  refine RX2_s rfl rfl fun Z hZ => ?_
  simp only [go_sem, seval]
  refine hZ _ ?_
  refine RX2_s rfl rfl fun Z hZ => ?_
  simp only [go_sem, seval, Nat.le_refl]
  refine hZ _ ?_
  refine RX2_a fun Z hZ => ?_
  simp only [go_sem, seval, slt_lt ht15, ha16]
  refine hZ _ ?_
  refine RX2_s rfl rfl fun Z hZ => ?_
  simp only [go_sem, seval]
  refine hZ _ ?_
  refine RX2_a fun Z hZ => ?_
  simp only [go_sem, seval, ha17]
  refine hZ _ ?_
  refine RX2_s rfl rfl fun Z hZ => ?_
  simp only [go_sem, seval]
  refine hZ _ ?_
  refine RX2_s rfl rfl fun Z hZ => ?_
  simp only [go_sem, seval]
  refine hZ _ ?_
  refine RX2_s rfl rfl fun Z hZ => ?_
  simp only [go_sem, seval]
  refine hZ _ ?_
  refine RX2_end (by kernel_rfl) (hY _ (pp (Wk_ret (pp ?_))))
  cases h
  simp only [go_sem, seval]
  exact ⟨_, rfl, RokI.h⟩
def fs_ref29_Acquire (N : Nat) : FnS := ⟨[], false, fn3 (decL 4 Lock.dec) Ref.decA (decI .i64) fun q0 q1 q2 => (ref29_Acquire N q0 q1 q2).map fun r => .tup [.sl false none 4 none (r.1.map Lock.row), .val (.int .i64 r.2.1), .val (.int .i64 r.2.2)], false⟩
attribute [go_sem] fs_ref29_Acquire
theorem fs_ref29_Acquire_ok (N : Nat) : FSOk Try.prog 10 (fs_ref29_Acquire N) := ok3 (fun q0 q1 q2 r h => by
  obtain ⟨r', hr, rfl⟩ := Option.map_eq_some_iff.1 h
  exact (w_ref29_Acquire N q0 q1 q2 r' hr).res (by (try simp only [go_sem]); exact RokI.h)) (fun h => decL_le Lock.dec_le h) (Ref.decA_le) (decI_le)

def fso_ref29_Acquire (N : Nat) : FnS := ⟨[], false, fn3 (decL 4 Lock.dec) Ref.decA (decI .i64) fun q0 q1 q2 => (ref29_Acquire N q0 q1 q2).map fun r => .tup [.sl true none 4 none (r.1.map Lock.row), .val (.int .i64 r.2.1), .val (.int .i64 r.2.2)], false⟩
attribute [go_sem] fso_ref29_Acquire
theorem fso_ref29_Acquire_ok (N : Nat) : FSOk Try.prog 10 (fso_ref29_Acquire N) := ok3 (fun q0 q1 q2 r h => by
  obtain ⟨r', hr, rfl⟩ := Option.map_eq_some_iff.1 h
  exact w_ref29_Acquire N q0 q1 q2 r' hr) (fun h => decL_le Lock.dec_le h) (Ref.decA_le) (decI_le)


theorem w_ref29_SameLocks (N : Nat) (a0 : (List Lock)) (a1 : (List Lock)) (r : Bool) (h : ref29_SameLocks N a0 a1 = some r) : Con Try.prog 11 [] true [.sl false none 4 none (a0.map Lock.row), .sl false none 4 none (a1.map Lock.row)] (.val (.bool r)) := by
  refine fun_ok4 (G := (glist [])) Try.func11 rfl (by decide) (by kernel_rfl) gn [] mix (Nat.le_of_ble_eq_true rfl) ?_
  simp only [Try.f11]
  unfold ref29_SameLocks at h
  refine Wk_seq (Wk_regionZ fun Z hZ => ?_)
  simp only [go_sem, seval]
  refine hZ _ (pp (Wk_seq (Wk_seq (Wk_regionZ fun Z hZ => ?_))))
  simp only [go_sem, seval]
  refine hZ _ (pp (Wk_cond_ndec rfl (fun hc1 => ?_) (fun hc1 => ?_)))
  · have hc1d := decide_eq_false hc1
    rw [if_neg hc1] at h
    refine Wk_seq (Wk_regionZ fun Z hZ => ?_)
    simp only [go_sem, seval, hc1d]
    refine hZ _ (pp (Wk_ret (pp ?_)))
    cases h
    simp only [go_sem, seval]
    exact ⟨_, rfl, RokI.h, PureI.h⟩
  have hc1d := decide_eq_true hc1
  rw [if_pos hc1] at h
  refine Wk_skip (pp (Wk_seq (Wk_seq (Wk_regionZ fun Z hZ => ?_))))
  simp only [go_sem, seval, hc1d]
  refine hZ _ (pp (Wk_block (Wk_real fun hreal3 => ?_)))
  have hl2 := hreal3.lenT 0 (by decide) (by simp only [go_sem, seval]; rfl)
  first | rw [List.length_map] at hl2 | rw [mxR_len] at hl2 | rw [← List.map_append, List.length_map] at hl2
  refine Wk_range (fun (v3 : Nat) (b : Unit) => ⟨tab 84 (updT (updT (updT deadT 0 (.sl false none 4 none (a0.map Lock.row))) 1 (.sl false none 4 none (a1.map Lock.row))) 5 (.val (.int .i64 ((v3 : Nat) : Int)))), RZ⟩) () h ?_ ?_
  · refine weak_roots ?_ ?_ <;> repeat' first | exact xn | exact rn | refine xc ?_ ?_ | refine rc ?_ ?_ ?_ | rfl
  rintro v3 ⟨⟩ hi4 h -
  rcases (drop_cases a0 v3 hi4).symm with ⟨hi4', _, hd7⟩ | ⟨x6, hi4', hx5, hd7⟩
  · rw [hd7] at h
    simp only [ref29_SameLocks_L1] at h
    refine Wk_seq (Wk_seq (Wk_regionZ fun Z hZ => ?_))
    simp only [go_sem, seval, hi4']
    refine hZ _ (pp ?_)
    try simp only [Int.ofNat_lt, hi4', if_true, if_false] at h
    refine Wk_cond_f rfl (Wk_exit (pp (Wk_seq (Wk_regionZ fun Z hZ => ?_))))
    simp only [go_sem, seval]
    refine hZ _ (pp (Wk_ret (pp ?_)))
    cases h
    simp only [go_sem, seval]
    exact ⟨_, rfl, RokI.h, PureI.h⟩
  rw [hd7] at h
  simp only [ref29_SameLocks_L1] at h
  have hw6 := wrap_succ hi4' hl2
  refine Wk_seq (Wk_seq (Wk_regionZ fun Z hZ => ?_))
  simp only [go_sem, seval, hi4']
  refine hZ _ (pp ?_)
  try simp only [Int.ofNat_lt, hi4', if_true, if_false] at h
  refine Wk_cond_t rfl (Wk_skip (pp (Wk_seq (Wk_block (Wk_seq ?_)))))
  apply Wk_join1 (fun (c5 : Bool) => ⟨tab 84 (updT (updT (updT (updT deadT 0 (.sl false none 4 none (a0.map Lock.row))) 1 (.sl false none 4 none (a1.map Lock.row))) 5 (.val (.int .i64 ((v3 : Nat) : Int)))) 56 (.val (.bool c5))), RZ⟩)
  · intro hJ8
    try rw [gx_nat hx5] at h
    obtain ⟨x7, hb9, hx10, h⟩ := gx_some h
    try simp only [Int.toNat_natCast] at hx10
    try simp only [Int.ofNat_lt, Int.natCast_nonneg, true_and] at hb9
    refine Wk_regionD fun Z hZ => ?_
    simp only [go_sem, seval, hx5, hi4', hb9, hx10]
    refine RX_guard_nbool rfl (fun hc11 => ?_) (fun hc11 => ?_)
    · rw [if_neg (ne_true_of_eq_false hc11)] at h
      simp only [go_sem, seval, hc11]
      refine hZ _ (by kernel_rfl) (pp (hJ8 _ true ?_ h))
      refine weak_roots ?_ ?_ <;> repeat' first | exact xn | exact rn | refine xc ?_ ?_ | refine rc ?_ ?_ ?_ | rfl
    rw [if_pos hc11] at h
    try rw [gx_nat hx5] at h
    simp only [go_sem, seval, hx5, hi4', hb9, hx10, hc11]
    refine RX_guard_ndec rfl (fun hc12 => ?_) (fun hc12 => ?_)
    · have hc12d := decide_eq_false hc12
      rw [if_neg hc12] at h
      simp only [go_sem, seval, hc12d]
      refine hZ _ (by kernel_rfl) (pp (hJ8 _ true ?_ h))
      refine weak_roots ?_ ?_ <;> repeat' first | exact xn | exact rn | refine xc ?_ ?_ | refine rc ?_ ?_ ?_ | rfl
    have hc12d := decide_eq_true hc12
    rw [if_pos hc12] at h
    try rw [gx_nat hx5] at h
    simp only [go_sem, seval, hx5, hi4', hb9, hx10, hc12d]
    repeat with_reducible refine and_bar (by kernel_rfl) ?_
    refine hZ _ (by kernel_rfl) (pp (hJ8 _ (!decide (((x6.Waiters.length : Nat) : Int) = ((x7.Waiters.length : Nat) : Int))) ?_ h))
    refine weak_roots ?_ ?_ <;> repeat' first | exact xn | exact rn | refine xc ?_ ?_ | refine rc ?_ ?_ ?_ | rfl
  intro c5 h
  unfold ref29_SameLocks_J1 at h
  refine Wk_cond_bool rfl (fun hc13 => ?_) (fun hc13 => ?_)
  · rw [if_pos hc13] at h
    refine Wk_seq (Wk_regionZ fun Z hZ => ?_)
    simp only [go_sem, seval, hc13]
    refine hZ _ (pp (Wk_ret (pp ?_)))
    cases h
    simp only [go_sem, seval]
    exact ⟨_, rfl, RokI.h, PureI.h⟩
  rw [if_neg (ne_true_of_eq_false hc13)] at h
  refine Wk_skip (pp ?_)
  unfold ref29_SameLocks_J2 at h
  refine Wk_seq (Wk_regionZ fun Z hZ => ?_)
  simp only [go_sem, seval, hc13]
  refine hZ _ (pp (Wk_block (Wk_fuel (fun (b : Int) => ⟨tab 84 (updT (updT (updT (updT deadT 0 (.sl false none 4 none (a0.map Lock.row))) 1 (.sl false none 4 none (a1.map Lock.row))) 5 (.val (.int .i64 ((v3 : Nat) : Int)))) 6 (.val (.int .i64 b))), RZ⟩) 0 h ?_ ?_)))
  · refine weak_roots ?_ ?_ <;> repeat' first | exact xn | exact rn | refine xc ?_ ?_ | refine rc ?_ ?_ ?_ | rfl
  rintro n v13 h -
  cases n with
  | zero => simp [ref29_SameLocks_L2] at h
  | succ n =>
  simp only [ref29_SameLocks_L2] at h
  refine Wk_seq (Wk_seq ?_)
  try rw [gx_nat hx5] at h
  refine Wk_regionZ fun Z hZ => ?_
  simp only [go_sem, seval, hx5, hi4']
  refine hZ _ (pp (sw (Wk_cond_dec rfl) (fun hc14 => ?_) (fun hc14 => ?_)))
  · have hc14d := decide_eq_false hc14
    rw [if_neg hc14] at h
    refine Wk_exit (pp (Wk_regionZ fun Z hZ => ?_))
    simp only [go_sem, seval, hw6, hc14d]
    refine hZ _ (pp ?_)
    first | refine ⟨(), ?_, h⟩ | refine ⟨hi4', (), ?_, h⟩
    refine weak_roots ?_ ?_ <;> repeat' first | exact xn | exact rn | refine xc ?_ ?_ | refine rc ?_ ?_ ?_ | rfl
  have hc14d := decide_eq_true hc14
  rw [if_pos hc14] at h
  refine Wk_skip (pp (Wk_seq (Wk_block (Wk_seq ?_))))
  try rw [gx_nat hx5] at h
  obtain ⟨x8, hb15, hx16, h⟩ := gx_some h
  obtain ⟨x9, hb17, hx18, h⟩ := gx_some h
  try simp only [Int.toNat_natCast] at hx18
  try simp only [Int.ofNat_lt, Int.natCast_nonneg, true_and] at hb17
  obtain ⟨x10, hb19, hx20, h⟩ := gx_some h
  refine Wk_regionD fun Z hZ => ?_
  simp only [go_sem, seval, hx5, hi4', hb15, hx16, hb17, hx18, hb19, hx20]
  refine hZ _ (by kernel_rfl) (pp (Wk_cond_ndec rfl (fun hc21 => ?_) (fun hc21 => ?_)))
  · have hc21d := decide_eq_false hc21
    rw [if_neg hc21] at h
    refine Wk_seq (Wk_regionZ fun Z hZ => ?_)
    simp only [go_sem, seval, hc21d]
    refine hZ _ (pp (Wk_ret (pp ?_)))
    cases h
    simp only [go_sem, seval]
    exact ⟨_, rfl, RokI.h, PureI.h⟩
  have hc21d := decide_eq_true hc21
  rw [if_pos hc21] at h
  refine Wk_skip (pp (Wk_regionZ fun Z hZ => ?_))
  simp only [go_sem, seval, hc21d]
  refine hZ _ (pp (⟨_, Nat.lt_succ_self _, (IntKind.i64.wrap (v13 + 1)), ?_, h⟩))
  refine weak_roots ?_ ?_ <;> repeat' first | exact xn | exact rn | refine xc ?_ ?_ | refine rc ?_ ?_ ?_ | rfl
def fs_ref29_SameLocks (N : Nat) : FnS := ⟨[], true, fn2 (decL 4 Lock.dec) (decL 4 Lock.dec) fun q0 q1 => (ref29_SameLocks N q0 q1).map fun r => .val (.bool r), false⟩
attribute [go_sem] fs_ref29_SameLocks
theorem fs_ref29_SameLocks_ok (N : Nat) : FSOk Try.prog 11 (fs_ref29_SameLocks N) := ok2 (fun q0 q1 r h => by
  obtain ⟨r', hr, rfl⟩ := Option.map_eq_some_iff.1 h
  exact w_ref29_SameLocks N q0 q1 r' hr) (fun h => decL_le Lock.dec_le h) (fun h => decL_le Lock.dec_le h)

end Go.Proofs.Ythafflhaoplpjaa
