/- Walks: each function computes its model. No condition. -/
import Derived.Test.YthdbndgfjldhpaaB
/- Each Go function computes its model: proofs laid by a program of ours. -/
set_option maxHeartbeats 40000000
set_option synthInstance.maxHeartbeats 2000000
set_option synthInstance.maxSize 4000
set_option linter.unusedSimpArgs false
set_option linter.unusedVariables false
set_option maxRecDepth 100000
namespace Go.Proofs.Ythdbndgfjldhpaa
open Go Go.Proofs Go.Abs
theorem w_reminders_validName (N : Nat) (a0 : ByteArray) (r : Bool) (h : reminders_validName N a0 = some r) : Con Try.prog 16 [] true [.val (.string a0)] (.val (.bool r)) := by
  refine fun_ok4 (G := (glist [])) Try.func16 rfl (by decide) (by kernel_rfl) gn [] mix (Nat.le_of_ble_eq_true rfl) ?_
  simp only [Try.f16]
  unfold reminders_validName at h
  refine Wk_seq (Wk_regionZ fun Z hZ => ?_)
  simp only [go_sem, seval]
  refine hZ _ (pp (Wk_seq (Wk_regionZ fun Z hZ => ?_)))
  simp only [go_sem, seval]
  refine RX_guard_dec rfl (fun hc1 => ?_) (fun hc1 => ?_)
  · have hc1d := decide_eq_true hc1
    rw [if_pos hc1] at h
    simp only [go_sem, seval, hc1d]
    refine hZ _ (pp (Wk_ret (pp ?_)))
    cases h
    simp only [go_sem, seval]
    exact ⟨_, rfl, RokI.h, PureI.h⟩
  have hc1d := decide_eq_false hc1
  rw [if_neg hc1] at h
  simp only [go_sem, seval, hc1d]
  refine hZ _ (pp (Wk_ret (pp ?_)))
  cases h
  simp only [go_sem, seval]
  exact ⟨_, rfl, RokI.h, PureI.h⟩
def fs_reminders_validName (N : Nat) : FnS := ⟨[], true, fn1 decS fun q0 => (reminders_validName N q0).map fun r => .val (.bool r), false⟩
attribute [go_sem] fs_reminders_validName
theorem fs_reminders_validName_ok (N : Nat) : FSOk Try.prog 16 (fs_reminders_validName N) := ok1 (fun q0 r h => by
  obtain ⟨r', hr, rfl⟩ := Option.map_eq_some_iff.1 h
  exact w_reminders_validName N q0 r' hr) (decS_le)


theorem w_reminders_between (N : Nat) (a0 : Int) (a1 : Int) (r : Bool) (h : reminders_between N a0 a1 = some r) : Con Try.prog 15 [] true [.val (.int .i64 a0), .val (.int .i64 a1)] (.val (.bool r)) := by
  refine fun_ok4 (G := (glist [])) Try.func15 rfl (by decide) (by kernel_rfl) gn [] mix (Nat.le_of_ble_eq_true rfl) ?_
  simp only [Try.f15]
  unfold reminders_between at h
  refine Wk_seq (Wk_regionZ fun Z hZ => ?_)
  simp only [go_sem, seval]
  refine hZ _ (pp (Wk_seq (Wk_regionZ fun Z hZ => ?_)))
  simp only [go_sem, seval]
  refine RX_guard_dec rfl (fun hc1 => ?_) (fun hc1 => ?_)
  · have hc1d := decide_eq_true hc1
    rw [if_pos hc1] at h
    simp only [go_sem, seval, hc1d]
    refine hZ _ (pp (Wk_ret (pp ?_)))
    cases h
    simp only [go_sem, seval]
    exact ⟨_, rfl, RokI.h, PureI.h⟩
  have hc1d := decide_eq_false hc1
  rw [if_neg hc1] at h
  simp only [go_sem, seval, hc1d]
  refine hZ _ (pp (Wk_ret (pp ?_)))
  cases h
  simp only [go_sem, seval]
  exact ⟨_, rfl, RokI.h, PureI.h⟩
def fs_reminders_between (N : Nat) : FnS := ⟨[], true, fn2 (decI .i64) (decI .i64) fun q0 q1 => (reminders_between N q0 q1).map fun r => .val (.bool r), false⟩
attribute [go_sem] fs_reminders_between
theorem fs_reminders_between_ok (N : Nat) : FSOk Try.prog 15 (fs_reminders_between N) := ok2 (fun q0 q1 r h => by
  obtain ⟨r', hr, rfl⟩ := Option.map_eq_some_iff.1 h
  exact w_reminders_between N q0 q1 r' hr) (decI_le) (decI_le)


noncomputable def G_reminders_validReminder (N d f : Nat) : Option FnS := glist [(5, 16, fs_reminders_validName N), (9, 15, fs_reminders_between N), (14, 15, fs_reminders_between N), (19, 15, fs_reminders_between N)] d f
attribute [go_sem] G_reminders_validReminder
theorem w_reminders_validReminder (N : Nat) (a0 : Reminder) (r : Bool) (h : reminders_validReminder N a0 = some r) : Con Try.prog 25 [] true [.agg (Reminder.row a0)] (.val (.bool r)) := by
  refine fun_ok4 (G := (G_reminders_validReminder N)) Try.func25 rfl (by decide) (by kernel_rfl) (gc 5 (fs_reminders_validName_ok N) (gc 9 (fs_reminders_between_ok N) (gc 14 (fs_reminders_between_ok N) (gc 19 (fs_reminders_between_ok N) gn)))) [] mix (Nat.le_of_ble_eq_true rfl) ?_
  simp only [Try.f25]
  unfold reminders_validReminder at h
  refine Wk_seq (Wk_regionZ fun Z hZ => ?_)
  simp only [go_sem, seval]
  refine hZ _ (pp (Wk_seq ?_))
  obtain ⟨r1, hr1, h⟩ := Option.bind_eq_some_iff.1 h
  refine Wk_regionD fun Z hZ => ?_
  simp only [go_sem, seval, hr1]
  repeat with_reducible refine and_bar (by kernel_rfl) ?_
  refine sw (RX_guard_bool rfl) (fun hc2 => ?_) (fun hc2 => ?_)
  · rw [if_neg (ne_true_of_eq_false hc2)] at h
    simp only [go_sem, seval, hc2]
    refine hZ _ (by kernel_rfl) (pp (Wk_ret (pp ?_)))
    cases h
    simp only [go_sem, seval]
    exact ⟨_, rfl, RokI.h, PureI.h⟩
  rw [if_pos hc2] at h
  obtain ⟨r2, hr3, h⟩ := Option.bind_eq_some_iff.1 h
  simp only [go_sem, seval, hc2, hr3]
  repeat with_reducible refine and_bar (by kernel_rfl) ?_
  refine sw (RX_guard_bool rfl) (fun hc4 => ?_) (fun hc4 => ?_)
  · rw [if_neg (ne_true_of_eq_false hc4)] at h
    simp only [go_sem, seval, hc4]
    refine hZ _ (by kernel_rfl) (pp (Wk_ret (pp ?_)))
    cases h
    simp only [go_sem, seval]
    exact ⟨_, rfl, RokI.h, PureI.h⟩
  rw [if_pos hc4] at h
  obtain ⟨r3, hr5, h⟩ := Option.bind_eq_some_iff.1 h
  simp only [go_sem, seval, hc4, hr5]
  repeat with_reducible refine and_bar (by kernel_rfl) ?_
  refine sw (RX_guard_bool rfl) (fun hc6 => ?_) (fun hc6 => ?_)
  · rw [if_neg (ne_true_of_eq_false hc6)] at h
    simp only [go_sem, seval, hc6]
    refine hZ _ (by kernel_rfl) (pp (Wk_ret (pp ?_)))
    cases h
    simp only [go_sem, seval]
    exact ⟨_, rfl, RokI.h, PureI.h⟩
  rw [if_pos hc6] at h
  obtain ⟨r4, hr7, h⟩ := Option.bind_eq_some_iff.1 h
  simp only [go_sem, seval, hc6, hr7]
  repeat with_reducible refine and_bar (by kernel_rfl) ?_
  refine RX_guard_bool rfl (fun hc8 => ?_) (fun hc8 => ?_)
  · rw [if_pos hc8] at h
    obtain ⟨hd9, h⟩ := dvx_some h
    simp only [go_sem, seval, hc8, hd9]
    refine hZ _ (by kernel_rfl) (pp (Wk_ret (pp ?_)))
    cases h
    simp only [go_sem, seval]
    exact ⟨_, rfl, RokI.h, PureI.h⟩
  rw [if_neg (ne_true_of_eq_false hc8)] at h
  simp only [go_sem, seval, hc8]
  refine hZ _ (by kernel_rfl) (pp (Wk_ret (pp ?_)))
  cases h
  simp only [go_sem, seval]
  exact ⟨_, rfl, RokI.h, PureI.h⟩
def fs_reminders_validReminder (N : Nat) : FnS := ⟨[], true, fn1 Reminder.decA fun q0 => (reminders_validReminder N q0).map fun r => .val (.bool r), false⟩
attribute [go_sem] fs_reminders_validReminder
theorem fs_reminders_validReminder_ok (N : Nat) : FSOk Try.prog 25 (fs_reminders_validReminder N) := ok1 (fun q0 r h => by
  obtain ⟨r', hr, rfl⟩ := Option.map_eq_some_iff.1 h
  exact w_reminders_validReminder N q0 r' hr) (Reminder.decA_le)


noncomputable def G_reminders_Valid (N d f : Nat) : Option FnS := glist [(16, 25, fs_reminders_validReminder N)] d f
attribute [go_sem] G_reminders_Valid
theorem w_reminders_Valid (N : Nat) (a0 : (List Reminder)) (r : Bool) (h : reminders_Valid N a0 = some r) : Con Try.prog 13 [] true [.sl false none 4 none (a0.map Reminder.row)] (.val (.bool r)) := by
  refine fun_ok4 (G := (G_reminders_Valid N)) Try.func13 rfl (by decide) (by kernel_rfl) (gc 16 (fs_reminders_validReminder_ok N) gn) [] mix (Nat.le_of_ble_eq_true rfl) ?_
  simp only [Try.f13]
  unfold reminders_Valid at h
  refine Wk_seq (Wk_regionZ fun Z hZ => ?_)
  simp only [go_sem, seval]
  refine hZ _ (pp (Wk_seq (Wk_seq (Wk_regionZ fun Z hZ => ?_))))
  simp only [go_sem, seval]
  refine hZ _ (pp (Wk_cond_dec rfl (fun hc1 => ?_) (fun hc1 => ?_)))
  · have hc1d := decide_eq_true hc1
    rw [if_pos hc1] at h
    refine Wk_seq (Wk_regionZ fun Z hZ => ?_)
    simp only [go_sem, seval, hc1d]
    refine hZ _ (pp (Wk_ret (pp ?_)))
    cases h
    simp only [go_sem, seval]
    exact ⟨_, rfl, RokI.h, PureI.h⟩
  have hc1d := decide_eq_false hc1
  rw [if_neg hc1] at h
  refine Wk_skip (pp (Wk_seq (Wk_seq (Wk_regionZ fun Z hZ => ?_))))
  simp only [go_sem, seval, hc1d]
  refine hZ _ (pp (Wk_block (Wk_real fun hreal3 => ?_)))
  have hl2 := hreal3.lenT 0 (by decide) (by simp only [go_sem, seval]; rfl)
  rw [List.length_map] at hl2
  refine Wk_range (fun (v3 : Nat) (b : Unit) => ⟨tab 34 (updT (updT (updT (updT deadT 0 (.sl false none 4 none (a0.map Reminder.row))) 8 (.sl false none 4 none (a0.map Reminder.row))) 9 (.val (.int .i64 ((a0.length : Nat) : Int)))) 10 (.val (.int .i64 ((v3 : Nat) : Int)))), RZ⟩) () h ?_ ?_
  · refine weak_roots ?_ ?_ <;> repeat' first | exact xn | exact rn | refine xc ?_ ?_ | refine rc ?_ ?_ ?_ | rfl
  rintro v3 ⟨⟩ hi4 h -
  rcases (drop_cases a0 v3 hi4).symm with ⟨hi4', _, hd7⟩ | ⟨x6, hi4', hx5, hd7⟩
  · rw [hd7] at h
    simp only [reminders_Valid_L1] at h
    refine Wk_seq (Wk_regionZ fun Z hZ => ?_)
    simp only [go_sem, seval, hi4']
    refine hZ _ (pp (Wk_seq ?_))
    try simp only [Int.ofNat_lt, hi4', if_true, if_false] at h
    refine Wk_cond_f rfl (Wk_exit (pp (Wk_seq (Wk_regionZ fun Z hZ => ?_))))
    simp only [go_sem, seval]
    refine hZ _ (pp (Wk_ret (pp ?_)))
    cases h
    simp only [go_sem, seval]
    exact ⟨_, rfl, RokI.h, PureI.h⟩
  rw [hd7] at h
  simp only [reminders_Valid_L1] at h
  have hw6 := wrap_succ hi4' hl2
  refine Wk_seq (Wk_regionZ fun Z hZ => ?_)
  simp only [go_sem, seval, hi4']
  refine hZ _ (pp (Wk_seq ?_))
  try simp only [Int.ofNat_lt, hi4', if_true, if_false] at h
  refine Wk_cond_t rfl (Wk_skip (pp (Wk_seq (Wk_block (Wk_seq ?_)))))
  try rw [gx_nat hx5] at h
  refine Wk_regionZ fun Z hZ => ?_
  simp only [go_sem, seval, hx5, hi4']
  refine hZ _ (pp ?_)
  apply Wk_join1 (fun (c3 : Bool) => ⟨tab 34 (updT (updT (updT (updT (updT deadT 0 (.sl false none 4 none (a0.map Reminder.row))) 8 (.sl false none 4 none (a0.map Reminder.row))) 9 (.val (.int .i64 ((a0.length : Nat) : Int)))) 10 (.val (.int .i64 ((v3 : Nat) : Int)))) 32 (.val (.bool c3))), RZ⟩)
  · intro hJ8
    obtain ⟨r4, hr9, h⟩ := Option.bind_eq_some_iff.1 h
    refine Wk_regionD fun Z hZ => ?_
    simp only [go_sem, seval, hr9]
    repeat with_reducible refine and_bar (by kernel_rfl) ?_
    refine RX_guard_nbool rfl (fun hc10 => ?_) (fun hc10 => ?_)
    · rw [if_neg (ne_true_of_eq_false hc10)] at h
      simp only [go_sem, seval, hc10]
      refine hZ _ (by kernel_rfl) (pp (hJ8 _ true ?_ h))
      refine weak_roots ?_ ?_ <;> repeat' first | exact xn | exact rn | refine xc ?_ ?_ | refine rc ?_ ?_ ?_ | rfl
    rw [if_pos hc10] at h
    simp only [go_sem, seval, hc10]
    refine RX_guard_dec rfl (fun hc11 => ?_) (fun hc11 => ?_)
    · have hc11d := decide_eq_true hc11
      rw [if_pos hc11] at h
      obtain ⟨x5, hb12, hx13, h⟩ := gx_some h
      simp only [go_sem, seval, hc11d, hb12, hx13]
      refine hZ _ (by kernel_rfl) (pp (hJ8 _ (!(sLt x5.Name x6.Name)) ?_ h))
      refine weak_roots ?_ ?_ <;> repeat' first | exact xn | exact rn | refine xc ?_ ?_ | refine rc ?_ ?_ ?_ | rfl
    have hc11d := decide_eq_false hc11
    rw [if_neg hc11] at h
    simp only [go_sem, seval, hc11d]
    refine hZ _ (by kernel_rfl) (pp (hJ8 _ false ?_ h))
    refine weak_roots ?_ ?_ <;> repeat' first | exact xn | exact rn | refine xc ?_ ?_ | refine rc ?_ ?_ ?_ | rfl
  intro c3 h
  unfold reminders_Valid_J1 at h
  refine Wk_cond_bool rfl (fun hc14 => ?_) (fun hc14 => ?_)
  · rw [if_pos hc14] at h
    refine Wk_seq (Wk_regionZ fun Z hZ => ?_)
    simp only [go_sem, seval, hc14]
    refine hZ _ (pp (Wk_ret (pp ?_)))
    cases h
    simp only [go_sem, seval]
    exact ⟨_, rfl, RokI.h, PureI.h⟩
  rw [if_neg (ne_true_of_eq_false hc14)] at h
  refine Wk_skip (pp (Wk_regionZ fun Z hZ => ?_))
  simp only [go_sem, seval, hw6, hc14]
  refine hZ _ (pp ?_)
  first | refine ⟨(), ?_, h⟩ | refine ⟨hi4', (), ?_, h⟩
  refine weak_roots ?_ ?_ <;> repeat' first | exact xn | exact rn | refine xc ?_ ?_ | refine rc ?_ ?_ ?_ | rfl
def fs_reminders_Valid (N : Nat) : FnS := ⟨[], true, fn1 (decL 4 Reminder.dec) fun q0 => (reminders_Valid N q0).map fun r => .val (.bool r), false⟩
attribute [go_sem] fs_reminders_Valid
theorem fs_reminders_Valid_ok (N : Nat) : FSOk Try.prog 13 (fs_reminders_Valid N) := ok1 (fun q0 r h => by
  obtain ⟨r', hr, rfl⟩ := Option.map_eq_some_iff.1 h
  exact w_reminders_Valid N q0 r' hr) (fun h => decL_le Reminder.dec_le h)


theorem w_cmp_isNaN_string (N : Nat) (a0 : ByteArray) (r : Bool) (h : cmp_isNaN_string N a0 = some r) : Con Try.prog 33 [] true [.val (.string a0)] (.val (.bool r)) := by
  refine fun_ok4 (G := (glist [])) Try.func33 rfl (by decide) (by kernel_rfl) gn [] mix (Nat.le_of_ble_eq_true rfl) ?_
  simp only [Try.f33]
  unfold cmp_isNaN_string at h
  refine Wk_seq (Wk_regionZ fun Z hZ => ?_)
  simp only [go_sem, seval]
  refine hZ _ (pp (Wk_seq (Wk_regionZ fun Z hZ => ?_)))
  simp only [go_sem, seval]
  refine hZ _ (pp (Wk_ret (pp ?_)))
  cases h
  simp only [go_sem, seval]
  exact ⟨_, rfl, RokI.h, PureI.h⟩
def fs_cmp_isNaN_string (N : Nat) : FnS := ⟨[], true, fn1 decS fun q0 => (cmp_isNaN_string N q0).map fun r => .val (.bool r), false⟩
attribute [go_sem] fs_cmp_isNaN_string
theorem fs_cmp_isNaN_string_ok (N : Nat) : FSOk Try.prog 33 (fs_cmp_isNaN_string N) := ok1 (fun q0 r h => by
  obtain ⟨r', hr, rfl⟩ := Option.map_eq_some_iff.1 h
  exact w_cmp_isNaN_string N q0 r' hr) (decS_le)


noncomputable def G_cmp_Compare_string (N d f : Nat) : Option FnS := glist [(8, 33, fs_cmp_isNaN_string N), (10, 33, fs_cmp_isNaN_string N)] d f
attribute [go_sem] G_cmp_Compare_string
theorem w_cmp_Compare_string (N : Nat) (a0 : ByteArray) (a1 : ByteArray) (r : Int) (h : cmp_Compare_string N a0 a1 = some r) : Con Try.prog 28 [] true [.val (.string a0), .val (.string a1)] (.val (.int .i64 r)) := by
  refine fun_ok4 (G := (G_cmp_Compare_string N)) Try.func28 rfl (by decide) (by kernel_rfl) (gc 8 (fs_cmp_isNaN_string_ok N) (gc 10 (fs_cmp_isNaN_string_ok N) gn)) [] mix (Nat.le_of_ble_eq_true rfl) ?_
  simp only [Try.f28]
  unfold cmp_Compare_string at h
  refine Wk_seq (Wk_regionZ fun Z hZ => ?_)
  simp only [go_sem, seval]
  refine hZ _ (pp (Wk_seq ?_))
  obtain ⟨r1, hr1, h⟩ := Option.bind_eq_some_iff.1 h
  refine Wk_regionZ fun Z hZ => ?_
  simp only [go_sem, seval, hr1]
  refine hZ _ (pp (Wk_seq ?_))
  obtain ⟨r2, hr2, h⟩ := Option.bind_eq_some_iff.1 h
  refine Wk_regionZ fun Z hZ => ?_
  simp only [go_sem, seval, hr2]
  refine hZ _ (pp (Wk_seq (Wk_seq (Wk_regionZ fun Z hZ => ?_))))
  simp only [go_sem, seval]
  refine hZ _ (pp (Wk_cond_bool rfl (fun hc3 => ?_) (fun hc3 => ?_)))
  · first | rw [if_pos hc3] at h | simp only [hc3, Bool.or_false, Bool.or_true, Bool.false_or, Bool.true_or, Bool.and_true, Bool.true_and, Bool.and_false, Bool.false_and, Bool.not_true, Bool.not_false, Bool.false_eq_true, if_true, if_false] at h
    refine Wk_seq (Wk_seq (Wk_regionZ fun Z hZ => ?_))
    simp only [go_sem, seval, hc3]
    refine hZ _ (pp (Wk_cond_bool rfl (fun hc4 => ?_) (fun hc4 => ?_)))
    · first | rw [if_pos hc4] at h | simp only [hc4, hc3, Bool.or_false, Bool.or_true, Bool.false_or, Bool.true_or, Bool.and_true, Bool.true_and, Bool.and_false, Bool.false_and, Bool.not_true, Bool.not_false, Bool.false_eq_true, if_true, if_false] at h
      refine Wk_seq (Wk_regionZ fun Z hZ => ?_)
      simp only [go_sem, seval, hc4]
      refine hZ _ (pp (Wk_ret (pp ?_)))
      cases h
      simp only [go_sem, seval]
      exact ⟨_, rfl, RokI.h, PureI.h⟩
    first | rw [if_neg (ne_true_of_eq_false hc4)] at h | simp only [hc4, hc3, Bool.or_false, Bool.or_true, Bool.false_or, Bool.true_or, Bool.and_true, Bool.true_and, Bool.and_false, Bool.false_and, Bool.not_true, Bool.not_false, Bool.false_eq_true, if_true, if_false] at h
    refine Wk_skip (pp (Wk_seq (Wk_regionZ fun Z hZ => ?_)))
    simp only [go_sem, seval, hc4]
    refine hZ _ (pp (Wk_ret (pp ?_)))
    cases h
    simp only [go_sem, seval]
    exact ⟨_, rfl, RokI.h, PureI.h⟩
  first | rw [if_neg (ne_true_of_eq_false hc3)] at h | simp only [hc3, Bool.or_false, Bool.or_true, Bool.false_or, Bool.true_or, Bool.and_true, Bool.true_and, Bool.and_false, Bool.false_and, Bool.not_true, Bool.not_false, Bool.false_eq_true, if_true, if_false] at h
  refine Wk_skip (pp (Wk_seq (Wk_seq (Wk_regionZ fun Z hZ => ?_))))
  simp only [go_sem, seval, hc3]
  refine hZ _ (pp (Wk_cond_bool rfl (fun hc5 => ?_) (fun hc5 => ?_)))
  · first | rw [if_pos hc5] at h | simp only [hc5, hc3, Bool.or_false, Bool.or_true, Bool.false_or, Bool.true_or, Bool.and_true, Bool.true_and, Bool.and_false, Bool.false_and, Bool.not_true, Bool.not_false, Bool.false_eq_true, if_true, if_false] at h
    refine Wk_seq (Wk_regionZ fun Z hZ => ?_)
    simp only [go_sem, seval, hc5]
    refine hZ _ (pp (Wk_ret (pp ?_)))
    cases h
    simp only [go_sem, seval]
    exact ⟨_, rfl, RokI.h, PureI.h⟩
  first | rw [if_neg (ne_true_of_eq_false hc5)] at h | simp only [hc5, hc3, Bool.or_false, Bool.or_true, Bool.false_or, Bool.true_or, Bool.and_true, Bool.true_and, Bool.and_false, Bool.false_and, Bool.not_true, Bool.not_false, Bool.false_eq_true, if_true, if_false] at h
  refine Wk_skip (pp (Wk_seq (Wk_seq (Wk_regionZ fun Z hZ => ?_))))
  simp only [go_sem, seval, hc5]
  refine hZ _ (pp (Wk_cond_bool rfl (fun hc6 => ?_) (fun hc6 => ?_)))
  · first | rw [if_pos hc6] at h | simp only [hc6, hc3, hc5, Bool.or_false, Bool.or_true, Bool.false_or, Bool.true_or, Bool.and_true, Bool.true_and, Bool.and_false, Bool.false_and, Bool.not_true, Bool.not_false, Bool.false_eq_true, if_true, if_false] at h
    refine Wk_seq (Wk_regionZ fun Z hZ => ?_)
    simp only [go_sem, seval, hc6]
    refine hZ _ (pp (Wk_ret (pp ?_)))
    cases h
    simp only [go_sem, seval]
    exact ⟨_, rfl, RokI.h, PureI.h⟩
  first | rw [if_neg (ne_true_of_eq_false hc6)] at h | simp only [hc6, hc3, hc5, Bool.or_false, Bool.or_true, Bool.false_or, Bool.true_or, Bool.and_true, Bool.true_and, Bool.and_false, Bool.false_and, Bool.not_true, Bool.not_false, Bool.false_eq_true, if_true, if_false] at h
  refine Wk_skip (pp (Wk_seq (Wk_seq (Wk_regionZ fun Z hZ => ?_))))
  simp only [go_sem, seval, hc6]
  refine hZ _ (pp (Wk_cond_nbool rfl (fun hc7 => ?_) (fun hc7 => ?_)))
  · first | rw [if_neg (ne_true_of_eq_false hc7)] at h | simp only [hc7, hc6, Bool.or_false, Bool.false_eq_true, if_false] at h
    refine Wk_seq (Wk_regionZ fun Z hZ => ?_)
    simp only [go_sem, seval, hc7]
    refine hZ _ (pp (Wk_ret (pp ?_)))
    cases h
    simp only [go_sem, seval]
    exact ⟨_, rfl, RokI.h, PureI.h⟩
  first | rw [if_pos hc7] at h | simp only [hc7, hc6, Bool.or_true, if_true] at h
  refine Wk_skip (pp (Wk_seq (Wk_regionZ fun Z hZ => ?_)))
  simp only [go_sem, seval, hc7]
  refine hZ _ (pp (Wk_ret (pp ?_)))
  cases h
  simp only [go_sem, seval]
  exact ⟨_, rfl, RokI.h, PureI.h⟩
def fs_cmp_Compare_string (N : Nat) : FnS := ⟨[], true, fn2 decS decS fun q0 q1 => (cmp_Compare_string N q0 q1).map fun r => .val (.int .i64 r), false⟩
attribute [go_sem] fs_cmp_Compare_string
theorem fs_cmp_Compare_string_ok (N : Nat) : FSOk Try.prog 28 (fs_cmp_Compare_string N) := ok2 (fun q0 q1 r h => by
  obtain ⟨r', hr, rfl⟩ := Option.map_eq_some_iff.1 h
  exact w_cmp_Compare_string N q0 q1 r' hr) (decS_le) (decS_le)


noncomputable def G_reminders_find_1 (N d f : Nat) : Option FnS := glist [(8, 28, fs_cmp_Compare_string N)] d f
attribute [go_sem] G_reminders_find_1
theorem w_reminders_find_1 (N : Nat) (a0 : Reminder) (a1 : ByteArray) (r : Int) (h : reminders_find_1 N a0 a1 = some r) : Con Try.prog 27 [] true [.agg (Reminder.row a0), .val (.string a1)] (.val (.int .i64 r)) := by
  refine fun_ok4 (G := (G_reminders_find_1 N)) Try.func27 rfl (by decide) (by kernel_rfl) (gc 8 (fs_cmp_Compare_string_ok N) gn) [] mix (Nat.le_of_ble_eq_true rfl) ?_
  simp only [Try.f27]
  unfold reminders_find_1 at h
  refine Wk_seq (Wk_regionZ fun Z hZ => ?_)
  simp only [go_sem, seval]
  refine hZ _ (pp (Wk_seq ?_))
  obtain ⟨r1, hr1, h⟩ := Option.bind_eq_some_iff.1 h
  refine Wk_regionZ fun Z hZ => ?_
  simp only [go_sem, seval, hr1]
  refine hZ _ (pp (Wk_ret (pp ?_)))
  cases h
  simp only [go_sem, seval]
  exact ⟨_, rfl, RokI.h, PureI.h⟩
def fs_reminders_find_1 (N : Nat) : FnS := ⟨[], true, fn2 Reminder.decA decS fun q0 q1 => (reminders_find_1 N q0 q1).map fun r => .val (.int .i64 r), false⟩
attribute [go_sem] fs_reminders_find_1
theorem fs_reminders_find_1_ok (N : Nat) : FSOk Try.prog 27 (fs_reminders_find_1 N) := ok2 (fun q0 q1 r h => by
  obtain ⟨r', hr, rfl⟩ := Option.map_eq_some_iff.1 h
  exact w_reminders_find_1 N q0 q1 r' hr) (Reminder.decA_le) (decS_le)


noncomputable def G_slices_BinarySearchFunc_string_reminders_find_1 (N d f : Nat) : Option FnS := glist [(30, 27, fs_reminders_find_1 N), (46, 27, fs_reminders_find_1 N)] d f
attribute [go_sem] G_slices_BinarySearchFunc_string_reminders_find_1
theorem w_slices_BinarySearchFunc_string_reminders_find_1 (N : Nat) (a0 : (List Reminder)) (a1 : ByteArray) (r : Int × Bool) (h : slices_BinarySearchFunc_string_reminders_find_1 N a0 a1 = some r) : Con Try.prog 26 [] true [.sl false none 4 none (a0.map Reminder.row), .val (.string a1), .clo 27 []] (.tup [.val (.int .i64 r.1), .val (.bool r.2)]) := by
  refine fun_ok4 (G := (G_slices_BinarySearchFunc_string_reminders_find_1 N)) Try.func26 rfl (by decide) (by kernel_rfl) (gc 30 (fs_reminders_find_1_ok N) (gc 46 (fs_reminders_find_1_ok N) gn)) [] mix (Nat.le_of_ble_eq_true rfl) ?_
  simp only [Try.f26]
  unfold slices_BinarySearchFunc_string_reminders_find_1 at h
  refine Wk_seq (Wk_regionZ fun Z hZ => ?_)
  simp only [go_sem, seval]
  refine hZ _ (pp (Wk_seq (Wk_regionZ fun Z hZ => ?_)))
  simp only [go_sem, seval]
  refine hZ _ (pp (Wk_seq (Wk_regionZ fun Z hZ => ?_)))
  simp only [go_sem, seval]
  refine hZ _ (pp (Wk_seq (Wk_block (Wk_fuel (fun (b : Int × Int) => ⟨tab 49 (updT (updT (updT (updT (updT (updT deadT 0 (.sl false none 4 none (a0.map Reminder.row))) 1 (.val (.string a1))) 2 (.clo 27 [])) 8 (.val (.int .i64 ((a0.length : Nat) : Int)))) 9 (.val (.int .i64 b.1))) 10 (.val (.int .i64 b.2))), RZ⟩) (0, ((a0.length : Nat) : Int)) h ?_ ?_))))
  · refine weak_roots ?_ ?_ <;> repeat' first | exact xn | exact rn | refine xc ?_ ?_ | refine rc ?_ ?_ ?_ | rfl
  rintro n ⟨v2, v3⟩ h -
  cases n with
  | zero => simp [slices_BinarySearchFunc_string_reminders_find_1_L1] at h
  | succ n =>
  simp only [slices_BinarySearchFunc_string_reminders_find_1_L1] at h
  refine Wk_seq (Wk_seq (Wk_regionZ fun Z hZ => ?_))
  simp only [go_sem, seval]
  refine hZ _ (pp (sw (Wk_cond_dec rfl) (fun hc1 => ?_) (fun hc1 => ?_)))
  · have hc1d := decide_eq_false hc1
    rw [if_neg hc1] at h
    refine Wk_exit (pp ?_)
    unfold slices_BinarySearchFunc_string_reminders_find_1_J1 at h
    refine Wk_seq (Wk_regionZ fun Z hZ => ?_)
    simp only [go_sem, seval, hc1d]
    refine RX_guard_dec rfl (fun hc6 => ?_) (fun hc6 => ?_)
    · have hc6d := decide_eq_true hc6
      rw [if_pos hc6] at h
      obtain ⟨x11, hb7, hx8, h⟩ := gx_some h
      obtain ⟨r12, hr9, h⟩ := Option.bind_eq_some_iff.1 h
      simp only [go_sem, seval, hb7, hx8, hr9]
      refine hZ _ (pp (Wk_ret (pp ?_)))
      cases h
      simp only [go_sem, seval]
      exact ⟨_, rfl, RokI.h, PureI.h⟩
    have hc6d := decide_eq_false hc6
    rw [if_neg hc6] at h
    simp only [go_sem, seval, hc6d]
    refine hZ _ (pp (Wk_ret (pp ?_)))
    cases h
    simp only [go_sem, seval]
    exact ⟨_, rfl, RokI.h, PureI.h⟩
  have hc1d := decide_eq_true hc1
  rw [if_pos hc1] at h
  refine Wk_skip (pp (Wk_block (Wk_seq (Wk_regionZ fun Z hZ => ?_))))
  simp only [go_sem, seval, hc1d]
  refine hZ _ (pp (Wk_seq ?_))
  obtain ⟨x9, hb2, hx3, h⟩ := gx_some h
  obtain ⟨r10, hr4, h⟩ := Option.bind_eq_some_iff.1 h
  refine Wk_regionZ fun Z hZ => ?_
  simp only [go_sem, seval, hb2, hx3, hr4]
  refine hZ _ (pp (Wk_cond_dec rfl (fun hc5 => ?_) (fun hc5 => ?_)))
  · have hc5d := decide_eq_true hc5
    rw [if_pos hc5] at h
    refine Wk_regionZ fun Z hZ => ?_
    simp only [go_sem, seval, hc5d]
    refine hZ _ (pp (⟨_, Nat.lt_succ_self _, (IntKind.i64.wrap ((IntKind.i64.wrap (shrI .u64 (IntKind.u64.wrap (IntKind.i64.wrap (v2 + v3))) 1)) + 1), v3), ?_, h⟩))
    refine weak_roots ?_ ?_ <;> repeat' first | exact xn | exact rn | refine xc ?_ ?_ | refine rc ?_ ?_ ?_ | rfl
  have hc5d := decide_eq_false hc5
  rw [if_neg hc5] at h
  refine Wk_regionZ fun Z hZ => ?_
  simp only [go_sem, seval, hc5d]
  refine hZ _ (pp (⟨_, Nat.lt_succ_self _, (v2, IntKind.i64.wrap (shrI .u64 (IntKind.u64.wrap (IntKind.i64.wrap (v2 + v3))) 1)), ?_, h⟩))
  refine weak_roots ?_ ?_ <;> repeat' first | exact xn | exact rn | refine xc ?_ ?_ | refine rc ?_ ?_ ?_ | rfl
def fs_slices_BinarySearchFunc_string_reminders_find_1 (N : Nat) : FnS := { own := [], pure := true, fn := fun cs => match cs with
  | [c0, c1, .clo 27 []] => ((decL 4 Reminder.dec) c0).bind fun qc0 => (decS c1).bind fun qc1 => (slices_BinarySearchFunc_string_reminders_find_1 N qc0 qc1).map fun r => .tup [.val (.int .i64 r.1), .val (.bool r.2)]
  | _ => none }
attribute [go_sem] fs_slices_BinarySearchFunc_string_reminders_find_1
theorem fs_slices_BinarySearchFunc_string_reminders_find_1_ok (N : Nat) : FSOk Try.prog 26 (fs_slices_BinarySearchFunc_string_reminders_find_1 N) := by
  refine ⟨fun cs r h => ?_, fun h => by cases h⟩
  simp only [fs_slices_BinarySearchFunc_string_reminders_find_1] at h
  split at h
  · simp only [Option.bind_eq_some_iff, Option.map_eq_some_iff] at h
    obtain ⟨q0, h0, q1, h1, r', hr, rfl⟩ := h
    exact ((w_slices_BinarySearchFunc_string_reminders_find_1 N q0 q1 r' hr).args (LeL.cons (decL_le Reminder.dec_le h0) (LeL.cons (decS_le h1) (LeL.cons (Le.clo (LeL.nil)) (LeL.nil)))))
  · cases h


noncomputable def G_reminders_find (N d f : Nat) : Option FnS := glist [(8, 26, fs_slices_BinarySearchFunc_string_reminders_find_1 N)] d f
attribute [go_sem] G_reminders_find
theorem w_reminders_find (N : Nat) (a0 : (List Reminder)) (a1 : ByteArray) (r : Int × Bool) (h : reminders_find N a0 a1 = some r) : Con Try.prog 17 [] true [.sl false none 4 none (a0.map Reminder.row), .val (.string a1)] (.tup [.val (.int .i64 r.1), .val (.bool r.2)]) := by
  refine fun_ok4 (G := (G_reminders_find N)) Try.func17 rfl (by decide) (by kernel_rfl) (gc 8 (fs_slices_BinarySearchFunc_string_reminders_find_1_ok N) gn) [] mix (Nat.le_of_ble_eq_true rfl) ?_
  simp only [Try.f17]
  unfold reminders_find at h
  refine Wk_seq (Wk_regionZ fun Z hZ => ?_)
  simp only [go_sem, seval]
  refine hZ _ (pp (Wk_seq ?_))
  obtain ⟨r1, hr1, h⟩ := Option.bind_eq_some_iff.1 h
  refine Wk_regionZ fun Z hZ => ?_
  simp only [go_sem, seval, hr1]
  refine hZ _ (pp (Wk_ret (pp ?_)))
  cases h
  simp only [go_sem, seval]
  exact ⟨_, rfl, RokI.h, PureI.h⟩
def fs_reminders_find (N : Nat) : FnS := ⟨[], true, fn2 (decL 4 Reminder.dec) decS fun q0 q1 => (reminders_find N q0 q1).map fun r => .tup [.val (.int .i64 r.1), .val (.bool r.2)], false⟩
attribute [go_sem] fs_reminders_find
theorem fs_reminders_find_ok (N : Nat) : FSOk Try.prog 17 (fs_reminders_find N) := ok2 (fun q0 q1 r h => by
  obtain ⟨r', hr, rfl⟩ := Option.map_eq_some_iff.1 h
  exact w_reminders_find N q0 q1 r' hr) (fun h => decL_le Reminder.dec_le h) (decS_le)


theorem w_slices_Clone_Reminder_nn (N : Nat) (a0 : (List Reminder)) (r : (List Reminder)) (h : slices_Clone_Reminder N a0 = some r) : Con Try.prog 18 [] true [.sl false (some false) 4 none (a0.map Reminder.row)] (.sl true none 4 none (r.map Reminder.row)) := by
  refine fun_ok4 (G := (glist [])) Try.func18 rfl (by decide) (by kernel_rfl) gn [] mix (Nat.le_of_ble_eq_true rfl) ?_
  simp only [Try.f18]
  unfold slices_Clone_Reminder at h
  refine Wk_seq (Wk_regionZ fun Z hZ => ?_)
  simp only [go_sem, seval]
  refine hZ _ (pp (Wk_seq (Wk_seq (Wk_regionZ fun Z hZ => ?_))))
  simp only [go_sem, seval]
  refine hZ _ (pp (Wk_cond_f rfl ?_))
  first | rw [if_pos (rfl : true = true)] at h | rw [if_neg Bool.false_ne_true] at h | skip
  refine Wk_skip (pp (Wk_seq ?_))
  first | obtain ⟨ha1, h⟩ := apn_some h | (obtain ⟨ha1, h⟩ := apx_some h; rw [List.nil_append] at h)
  simp only [Nat.reduceAdd] at ha1
  refine Wk_regionZ fun Z hZ => ?_
  simp only [go_sem, seval, ha1]
  refine hZ _ (pp (Wk_ret (pp ?_)))
  cases h
  simp only [go_sem, seval]
  exact ⟨_, rfl, RokI.h, PureI.h⟩
theorem w_slices_Clone_Reminder_nil (N : Nat)  (r : (List Reminder)) (h : slices_Clone_Reminder N [] = some r) : Con Try.prog 18 [] true [.val (.slice none 0 0)] (.sl true none 4 none (r.map Reminder.row)) := by
  refine fun_ok4 (G := (glist [])) Try.func18 rfl (by decide) (by kernel_rfl) gn [] mix (Nat.le_of_ble_eq_true rfl) ?_
  simp only [Try.f18]
  unfold slices_Clone_Reminder at h
  refine Wk_seq (Wk_regionZ fun Z hZ => ?_)
  simp only [go_sem, seval]
  refine hZ _ (pp (Wk_seq (Wk_seq (Wk_regionZ fun Z hZ => ?_))))
  simp only [go_sem, seval]
  refine hZ _ (pp (Wk_cond_t rfl ?_))
  first | rw [if_pos (rfl : true = true)] at h | rw [if_neg Bool.false_ne_true] at h | skip
  refine Wk_seq (Wk_regionZ fun Z hZ => ?_)
  simp only [go_sem, seval]
  refine hZ _ (pp (Wk_ret (pp ?_)))
  obtain rfl : r = [] := by simpa [apn] using h.symm
  simp only [go_sem, seval]
  exact ⟨_, rfl, RokI.h, PureI.h⟩
theorem w_slices_Clone_Reminder (N : Nat) (a0 : (List Reminder)) (r : (List Reminder)) (h : slices_Clone_Reminder N a0 = some r) : Con Try.prog 18 [] true [.sl false none 4 none (a0.map Reminder.row)] (.sl true none 4 none (r.map Reminder.row)) :=
  Con_nl (fun e => by obtain rfl : a0 = [] := List.map_eq_nil_iff.1 e; exact w_slices_Clone_Reminder_nil N r h) (w_slices_Clone_Reminder_nn N a0 r h)
def fs_slices_Clone_Reminder (N : Nat) : FnS := ⟨[], true, fn1 (decL 4 Reminder.dec) fun q0 => (slices_Clone_Reminder N q0).map fun r => .sl false none 4 none (r.map Reminder.row), false⟩
attribute [go_sem] fs_slices_Clone_Reminder
theorem fs_slices_Clone_Reminder_ok (N : Nat) : FSOk Try.prog 18 (fs_slices_Clone_Reminder N) := ok1 (fun q0 r h => by
  obtain ⟨r', hr, rfl⟩ := Option.map_eq_some_iff.1 h
  exact (w_slices_Clone_Reminder N q0 r' hr).res (by (try simp only [go_sem]); exact RokI.h)) (fun h => decL_le Reminder.dec_le h)

def fso_slices_Clone_Reminder (N : Nat) : FnS := ⟨[], true, fn1 (decL 4 Reminder.dec) fun q0 => (slices_Clone_Reminder N q0).map fun r => .sl true none 4 none (r.map Reminder.row), false⟩
attribute [go_sem] fso_slices_Clone_Reminder
theorem fso_slices_Clone_Reminder_ok (N : Nat) : FSOk Try.prog 18 (fso_slices_Clone_Reminder N) := ok1 (fun q0 r h => by
  obtain ⟨r', hr, rfl⟩ := Option.map_eq_some_iff.1 h
  exact w_slices_Clone_Reminder N q0 r' hr) (fun h => decL_le Reminder.dec_le h)


def fs_overlaps_slices_Insert_Reminder : FnS := { own := [true, true], pure := false, fn := fun _ => none, peek := true }
theorem fs_overlaps_slices_Insert_Reminder_own : fs_overlaps_slices_Insert_Reminder.own = [true, true] := rfl
theorem fs_overlaps_slices_Insert_Reminder_peek : fs_overlaps_slices_Insert_Reminder.peek = true := rfl
theorem overlaps_slices_Insert_Reminder : PeekOk Try.prog 29 :=
  peek_of (fn := Try.f29) (tS := 26) (tR := 4) (e := 35) (size := 4) Try.func29 rfl rfl (by kernel_rfl) (by kernel_rfl) (by kernel_rfl) (by kernel_rfl)
theorem fs_overlaps_slices_Insert_Reminder_ok : FSOk Try.prog 29 fs_overlaps_slices_Insert_Reminder := ⟨(fun cs r h => by simp [fs_overlaps_slices_Insert_Reminder] at h), fun _ => overlaps_slices_Insert_Reminder⟩
noncomputable def E_slices_Insert_Reminder : Env := { T := tiOf Try.prog, G := fun d f => if d = 67 ∧ f = 29 then some fs_overlaps_slices_Insert_Reminder else none }
theorem E_slices_Insert_Reminder_T : E_slices_Insert_Reminder.T = tiOf Try.prog := rfl
theorem E_slices_Insert_Reminder_F (d : Nat) : E_slices_Insert_Reminder.F d = none := rfl
theorem E_slices_Insert_Reminder_L (d f : Nat) : E_slices_Insert_Reminder.L d f = none := rfl
theorem E_slices_Insert_Reminder_G : E_slices_Insert_Reminder.G 67 29 = some fs_overlaps_slices_Insert_Reminder := rfl
theorem E_slices_Insert_Reminder_ok : GOk Try.prog { T := tiOf Try.prog, G := E_slices_Insert_Reminder.G } := by
  refine ⟨?_, fun _ _ _ h => by cases h⟩
  intro d f fs hfs
  simp only [E_slices_Insert_Reminder] at hfs
  split at hfs
  · rename_i hc; obtain ⟨rfl, rfl⟩ := hc; obtain rfl := Option.some.inj hfs; exact fs_overlaps_slices_Insert_Reminder_ok
  cases hfs
theorem fo_slices_Insert_Reminder : FunOk Try.prog 19 Try.f19 Try.f19.body.get! := ⟨Try.func19, rfl, by decide, by kernel_rfl⟩
set_option maxHeartbeats 4000000 in
theorem w1_slices_Insert_Reminder {α : Type} (row : α → List C) (ok : RowOk row) (l : List α) (i : Nat) (x : α) (k : Nat) (r : List α) (hr : r = l.take i ++ [x] ++ l.drop i) (hi : i ≤ l.length) (hsz : (l.length + 1) * 40 ≤ 140737488355328) (hk1 : l.length ≤ k) (hk2 : k ≤ maxLen) :
    Con Try.prog 19 [true, false, true] false [.sl true none 4 (some k) (l.map row), .val (.int .i64 i), .sl true none 4 none ([x].map row)] (.sl true none 4 none (r.map row)) := by
  refine fun_own (E := E_slices_Insert_Reminder) (tiOf_ok Try.prog _) E_slices_Insert_Reminder_ok mix fo_slices_Insert_Reminder (Nat.le_of_ble_eq_true rfl) ?_
  intro _
  rw [entry_tab (by simp)]
  rw [show entryF [true, false, true] [C.sl true none 4 (some k) (l.map row), C.val (.int .i64 i), C.sl true none 4 none ([x].map row)] = (updT (updT (updT deadT 0 (.pal 0 [] 0 l.length none)) 1 (.val (.int .i64 i))) 2 (.pal 2 [] 0 1 none)) from by funext t; match t with | 0 => simp [entryF, entryTmp, viewD, updT] | 1 => rfl | 2 => rfl | t + 3 => rfl]
  rw [show R0 [true, false, true] [C.sl true none 4 (some k) (l.map row), C.val (.int .i64 i), C.sl true none 4 none ([x].map row)] = upd (upd RZ 0 (C.sl true none 4 (some k) (l.map row))) 2 (C.sl true none 4 none ([x].map row)) from by funext t; match t with | 0 => rfl | 1 => rfl | 2 => rfl | t + 3 => rfl]
  apply W_start
  simp only [Try.f19, Option.get!]
  have hi1 : (i : Int) ≤ (l.length : Int) := by omega
  have hi2 : i ≤ l.length := hi
  have h10 : (((1 : Nat) : Int) = 0) = False := by simp
  have hp : (row x).all Abs.plainCell = true := ok.plain x
  have hf : (row x).map C.frz = (row x) := ok.frz x
  have hpD : (row x).all plainD = true := by have := (RowOk.allD ok [x]); simpa using this
  have hw1 : IntKind.i64.wrap ((l.length : Int) + ((1 : Nat) : Int)) = ((l.length + 1 : Nat) : Int) := by rw [wrap64_in (by omega) (by omega)]; rfl
  have hlt0 : (l.take i).length = i := by simp; omega
  have hes : (4 != 0) = true := rfl
  have hm1 : min 1 (l.length + 1 - i) = 1 := by omega
  have hm2 : min (l.length - i) (l.length + 1 - (i + 1)) = l.length - i := by omega
  have hm3 : (l.drop i).take (l.length - i) = l.drop i := List.take_of_length_le (by simp)
  have hm4 : i + 1 ≤ l.length + 1 := by omega
  have hw2 : IntKind.i64.wrap (((l.length + 1 : Nat) : Int) - (i : Int)) = ((l.length + 1 - i : Nat) : Int) := by rw [wrap64_in (by omega) (by omega)]; omega
  have hw1b : IntKind.i64.wrap ((l.length : Int) + 1) = ((l.length + 1 : Nat) : Int) := hw1
  have hw3 : IntKind.i64.wrap ((i : Int) + ((1 : Nat) : Int)) = ((i + 1 : Nat) : Int) := by rw [wrap64_in (by omega) (by omega)]; rfl
  have hw3b : IntKind.i64.wrap ((i : Int) + 1) = ((i + 1 : Nat) : Int) := hw3
  simp only [go_sem, seval, E_slices_Insert_Reminder_T, E_slices_Insert_Reminder_F, E_slices_Insert_Reminder_L, E_slices_Insert_Reminder_G, hi1, hi2, h10, Nat.le_refl, hp, hf, hpD, RowOk.frzRows ok, RowOk.all ok, RowOk.allPlain ok, RowOk.allD ok, rewritten, RX_cap, RX_copy, altX, roomS, roomC, cutC, copyX, resliceX, appendNewX, extOf, Ext.all, peekX, isOwnRoot, Option.map_some, hw1, hw2, hw3, hw1b, hw3b, Nat.min_self, Nat.zero_le, Nat.sub_zero, deepV, bne_self_eq_false, List.isEmpty_nil, decide_not, List.length_replicate, hlt0, hm1, hm2, hm3, hm4, fs_overlaps_slices_Insert_Reminder_own, fs_overlaps_slices_Insert_Reminder_peek, Nat.not_succ_le_self]
  refine W_cond_f rfl ?_
  simp only [go_sem, seval, E_slices_Insert_Reminder_T, E_slices_Insert_Reminder_F, E_slices_Insert_Reminder_L, E_slices_Insert_Reminder_G, hi1, hi2, h10, Nat.le_refl, hp, hf, hpD, RowOk.frzRows ok, RowOk.all ok, RowOk.allPlain ok, RowOk.allD ok, rewritten, RX_cap, RX_copy, altX, roomS, roomC, cutC, copyX, resliceX, appendNewX, extOf, Ext.all, peekX, isOwnRoot, Option.map_some, hw1, hw2, hw3, hw1b, hw3b, Nat.min_self, Nat.zero_le, Nat.sub_zero, deepV, bne_self_eq_false, List.isEmpty_nil, decide_not, List.length_replicate, hlt0, hm1, hm2, hm3, hm4, fs_overlaps_slices_Insert_Reminder_own, fs_overlaps_slices_Insert_Reminder_peek, Nat.not_succ_le_self]
  refine W_cond_dec rfl (fun hc => ?_) (fun hc => ?_)
  · have e : i = l.length := by omega
    subst e
    simp only [go_sem, seval, E_slices_Insert_Reminder_T, E_slices_Insert_Reminder_F, E_slices_Insert_Reminder_L, E_slices_Insert_Reminder_G, hi1, hi2, h10, Nat.le_refl, hp, hf, hpD, RowOk.frzRows ok, RowOk.all ok, RowOk.allPlain ok, RowOk.allD ok, rewritten, RX_cap, RX_copy, altX, roomS, roomC, cutC, copyX, resliceX, appendNewX, extOf, Ext.all, peekX, isOwnRoot, Option.map_some, hw1, hw2, hw3, hw1b, hw3b, Nat.min_self, Nat.zero_le, Nat.sub_zero, deepV, bne_self_eq_false, List.isEmpty_nil, decide_not, List.length_replicate, hlt0, hm1, hm2, hm3, hm4, fs_overlaps_slices_Insert_Reminder_own, fs_overlaps_slices_Insert_Reminder_peek, Nat.not_succ_le_self, FinO_ret, FinO_normal, hsz]
    refine fin_own ok ?_
    rw [hr]
    simp [List.take_of_length_le]
  · have hc1 : decide ((i : Int) = (l.length : Int)) = false := decide_eq_false hc
    have hlt : i < l.length := by omega
    simp only [go_sem, seval, E_slices_Insert_Reminder_T, E_slices_Insert_Reminder_F, E_slices_Insert_Reminder_L, E_slices_Insert_Reminder_G, hi1, hi2, h10, Nat.le_refl, hp, hf, hpD, RowOk.frzRows ok, RowOk.all ok, RowOk.allPlain ok, RowOk.allD ok, rewritten, RX_cap, RX_copy, altX, roomS, roomC, cutC, copyX, resliceX, appendNewX, extOf, Ext.all, peekX, isOwnRoot, Option.map_some, hw1, hw2, hw3, hw1b, hw3b, Nat.min_self, Nat.zero_le, Nat.sub_zero, deepV, bne_self_eq_false, List.isEmpty_nil, decide_not, List.length_replicate, hlt0, hm1, hm2, hm3, hm4, fs_overlaps_slices_Insert_Reminder_own, fs_overlaps_slices_Insert_Reminder_peek, Nat.not_succ_le_self, hc1]
    refine W_cond_dec rfl (fun hk => ?_) (fun hk => ?_)
    · have hk1 : decide (k < l.length + 1) = true := decide_eq_true hk
      have hk2 : k < i + (l.length + 1 - i) := by omega
      have e1 : i + (l.length + 1 - i) = l.length + 1 := by omega
      have hi3 : (i : Int) ≤ ((l.length + 1 : Nat) : Int) := by omega
      have hi4 : i ≤ l.length + 1 := by omega
      obtain ⟨A, hA⟩ : ∃ A, List.map row (List.take i l) ++ List.replicate (l.length + 1 - i) [C.val (Value.string ⟨#[]⟩), C.val (Value.int .i64 0), C.val (Value.int .i64 0), C.val (Value.int .i64 0)] = A := ⟨_, rfl⟩
      have hAp : plainL' A := by rw [← hA]; exact plainL'_append (plainL'_map ok _) (plainL'_vals _ [Value.string ⟨#[]⟩, Value.int .i64 0, Value.int .i64 0, Value.int .i64 0] (by simp [Value.oneCell']))
      have hAl : A.length = l.length + 1 := by rw [← hA, List.length_append, List.length_map, hlt0, List.length_replicate]; omega
      obtain ⟨B, hB⟩ : ∃ B, setRows A i [(row x)] = B := ⟨_, rfl⟩
      have hBp : plainL' B := by rw [← hB]; exact plainL'_set hAp ⟨by simp [frzRows, hf], by simp [hpD]⟩
      have hBl : B.length = l.length + 1 := by rw [← hB]; simp [setRows, hAl]; omega
      obtain ⟨D, hD⟩ : ∃ D, setRows B (i + 1) (List.map row (List.drop i l)) = D := ⟨_, rfl⟩
      have hDp : plainL' D := by rw [← hD]; exact plainL'_set hBp (plainL'_map ok _)
      have hDl : D.length = l.length + 1 := by rw [← hD]; simp [setRows, hBl]; omega
      have hDe : D = (l.take i ++ [x] ++ l.drop i).map row := by
        rw [← hD, ← hB, ← hA, List.map_take, List.map_drop, ins_new (A := l.map row) (n := l.length) (by simp) hi2 (by simp)]
        simp
      simp only [go_sem, seval, E_slices_Insert_Reminder_T, E_slices_Insert_Reminder_F, E_slices_Insert_Reminder_L, E_slices_Insert_Reminder_G, hi1, hi2, h10, Nat.le_refl, hp, hf, hpD, RowOk.frzRows ok, RowOk.all ok, RowOk.allPlain ok, RowOk.allD ok, rewritten, RX_cap, RX_copy, altX, roomS, roomC, cutC, copyX, resliceX, appendNewX, extOf, Ext.all, peekX, isOwnRoot, Option.map_some, hw1, hw2, hw3, hw1b, hw3b, Nat.min_self, Nat.zero_le, Nat.sub_zero, deepV, bne_self_eq_false, List.isEmpty_nil, decide_not, List.length_replicate, hlt0, hm1, hm2, hm3, hm4, fs_overlaps_slices_Insert_Reminder_own, fs_overlaps_slices_Insert_Reminder_peek, Nat.not_succ_le_self, hc1, hk1, hk, hk2, e1, hi3, hi4, hA, hAl, hAp.1, hAp.2, hB, hBp.1, hBp.2, hBl, hD, hDp.1, hDp.2, hsz]
      repeat' ((with_reducible refine and_bar ?_ ?_); kernel_rfl)
      simp only [go_sem, seval, E_slices_Insert_Reminder_T, E_slices_Insert_Reminder_F, E_slices_Insert_Reminder_L, E_slices_Insert_Reminder_G, hi1, hi2, h10, Nat.le_refl, hp, hf, hpD, RowOk.frzRows ok, RowOk.all ok, RowOk.allPlain ok, RowOk.allD ok, rewritten, RX_cap, RX_copy, altX, roomS, roomC, cutC, copyX, resliceX, appendNewX, extOf, Ext.all, peekX, isOwnRoot, Option.map_some, hw1, hw2, hw3, hw1b, hw3b, Nat.min_self, Nat.zero_le, Nat.sub_zero, deepV, bne_self_eq_false, List.isEmpty_nil, decide_not, List.length_replicate, hlt0, hm1, hm2, hm3, hm4, fs_overlaps_slices_Insert_Reminder_own, fs_overlaps_slices_Insert_Reminder_peek, Nat.not_succ_le_self, FinO_ret, FinO_normal, hDp.1, hDp.2, hD]
      refine fin_own ok ?_
      rw [hr, ← hDe, ← hDl, List.take_length]
    · have hk1 : decide (k < l.length + 1) = false := decide_eq_false hk
      have hk2 : ¬ k < i + (l.length + 1 - i) := by omega
      have hk3 : l.length + 1 ≤ k := by omega
      have e2 : l.length + 1 - l.length = 1 := by omega
      have e3 : l.length ≤ l.length + 1 := by omega
      have hi3 : (i : Int) ≤ ((l.length + 1 : Nat) : Int) := by omega
      have hi4 : i ≤ l.length + 1 := by omega
      have hne : ¬ l.length + 1 - (i + 1) = 0 := by omega
      have hne2 : ¬ l.length - i = 0 := by omega
      obtain ⟨A, hA⟩ : ∃ A, List.map row l ++ [[C.dead, C.dead, C.dead, C.dead]] = A := ⟨_, rfl⟩
      have hAp : plainL' A := by rw [← hA]; exact plainL'_append (plainL'_map ok _) (plainL'_dead 1 4)
      have hAl : A.length = l.length + 1 := by rw [← hA]; simp
      have hm5 : min (l.length + 1 - i) (l.length + 1 - (i + 1)) = l.length - i := by omega
      have hm5b : min (l.length + 1 - i) (l.length - i) = l.length - i := by omega
      obtain ⟨A2, hA2⟩ : ∃ A2, (A.drop i).take (l.length - i) = A2 := ⟨_, rfl⟩
      have hA2e : A2 = List.map row (l.drop i) := by
        rw [← hA2, ← hA, List.drop_append, List.length_map, show i - l.length = 0 by omega, List.drop_zero, List.take_append, List.take_of_length_le (by simp), show l.length - i - (List.drop i (List.map row l)).length = 0 by simp]
        simp [List.map_drop]
      have hA2p : (A2.all fun r => r.all Abs.plainCell) = true := by rw [hA2e]; exact ok.allPlain _
      have hA2f : frzRows A2 = A2 := by rw [hA2e]; exact ok.frzRows _
      have hA2d : plainL' A2 := by rw [hA2e]; exact plainL'_map ok _
      obtain ⟨B, hB⟩ : ∃ B, setRows A (i + 1) A2 = B := ⟨_, rfl⟩
      have hBp : plainL' B := by rw [← hB]; exact plainL'_set hAp hA2d
      have hBl : B.length = l.length + 1 := by rw [← hB]; simp [setRows, hAl, hA2e]; omega
      obtain ⟨D, hD⟩ : ∃ D, setRows B i [(row x)] = D := ⟨_, rfl⟩
      have hDp : plainL' D := by rw [← hD]; exact plainL'_set hBp ⟨by simp [frzRows, hf], by simp [hpD]⟩
      have hDl : D.length = l.length + 1 := by rw [← hD]; simp [setRows, hBl]; omega
      have hDe : D = (l.take i ++ [x] ++ l.drop i).map row := by
        rw [← hD, ← hB, ← hA2, ← hA, ins_here (A := l.map row) (n := l.length) (by simp) hi2]
        simp [List.map_take, List.map_drop]
      simp only [go_sem, seval, E_slices_Insert_Reminder_T, E_slices_Insert_Reminder_F, E_slices_Insert_Reminder_L, E_slices_Insert_Reminder_G, hi1, hi2, h10, Nat.le_refl, hp, hf, hpD, RowOk.frzRows ok, RowOk.all ok, RowOk.allPlain ok, RowOk.allD ok, rewritten, RX_cap, RX_copy, altX, roomS, roomC, cutC, copyX, resliceX, appendNewX, extOf, Ext.all, peekX, isOwnRoot, Option.map_some, hw1, hw2, hw3, hw1b, hw3b, Nat.min_self, Nat.zero_le, Nat.sub_zero, deepV, bne_self_eq_false, List.isEmpty_nil, decide_not, List.length_replicate, hlt0, hm1, hm2, hm3, hm4, fs_overlaps_slices_Insert_Reminder_own, fs_overlaps_slices_Insert_Reminder_peek, Nat.not_succ_le_self, hc1, hk1, hk, hk2, hk3, e2, e3, hi3, hi4, hne, hne2, hA, hAl, hAp.1, hAp.2, hes, hA2, hA2p, hA2f, hB, hBp.1, hBp.2, hBl, hD, hDp.1, hDp.2, hDl, hm5, hm5b]
      refine W_cond_t rfl ?_
      simp only [go_sem, seval, E_slices_Insert_Reminder_T, E_slices_Insert_Reminder_F, E_slices_Insert_Reminder_L, E_slices_Insert_Reminder_G, hi1, hi2, h10, Nat.le_refl, hp, hf, hpD, RowOk.frzRows ok, RowOk.all ok, RowOk.allPlain ok, RowOk.allD ok, rewritten, RX_cap, RX_copy, altX, roomS, roomC, cutC, copyX, resliceX, appendNewX, extOf, Ext.all, peekX, isOwnRoot, Option.map_some, hw1, hw2, hw3, hw1b, hw3b, Nat.min_self, Nat.zero_le, Nat.sub_zero, deepV, bne_self_eq_false, List.isEmpty_nil, decide_not, List.length_replicate, hlt0, hm1, hm2, hm3, hm4, fs_overlaps_slices_Insert_Reminder_own, fs_overlaps_slices_Insert_Reminder_peek, Nat.not_succ_le_self, hc1, hk1, hk, hk2, hk3, e2, e3, hi3, hi4, hne, hne2, hA, hAl, hAp.1, hAp.2, hes, hA2, hA2p, hA2f, hB, hBp.1, hBp.2, hBl, hD, hDp.1, hDp.2, hDl, hm5, hm5b]
      repeat' ((with_reducible refine and_bar ?_ ?_); kernel_rfl)
      simp only [go_sem, seval, E_slices_Insert_Reminder_T, E_slices_Insert_Reminder_F, E_slices_Insert_Reminder_L, E_slices_Insert_Reminder_G, hi1, hi2, h10, Nat.le_refl, hp, hf, hpD, RowOk.frzRows ok, RowOk.all ok, RowOk.allPlain ok, RowOk.allD ok, rewritten, RX_cap, RX_copy, altX, roomS, roomC, cutC, copyX, resliceX, appendNewX, extOf, Ext.all, peekX, isOwnRoot, Option.map_some, hw1, hw2, hw3, hw1b, hw3b, Nat.min_self, Nat.zero_le, Nat.sub_zero, deepV, bne_self_eq_false, List.isEmpty_nil, decide_not, List.length_replicate, hlt0, hm1, hm2, hm3, hm4, fs_overlaps_slices_Insert_Reminder_own, fs_overlaps_slices_Insert_Reminder_peek, Nat.not_succ_le_self, FinO_ret, FinO_normal, hDp.1, hDp.2, hD, hDl]
      refine fin_own ok ?_
      rw [hr, ← hDe, ← hDl, List.take_length]
theorem w_slices_Insert_Reminder (N : Nat) (a0 : List Reminder) (a1 : Int) (a2 : List Reminder) (r : List Reminder) (h : slices_Insert_Reminder N a0 a1 a2 = some r) :
    Con Try.prog 19 [true, false, true] false [.sl true none 4 none (a0.map Reminder.row), .val (.int .i64 a1), .sl true none 4 none (a2.map Reminder.row)] (.sl true none 4 none (r.map Reminder.row)) := by
  unfold slices_Insert_Reminder at h
  obtain ⟨n, x, rfl, rfl, h1, h2, h3⟩ := insM_some h
  exact Con_cap fun k hk1 hk2 => w1_slices_Insert_Reminder Reminder.row Reminder.row_ok a0 n x k r (Option.some.inj h3).symm h1 h2 (by simpa using hk1) hk2
def fso_slices_Insert_Reminder (N : Nat) : FnS := { own := [true, false, true], pure := false, fn := fun cs => match cs with
  | [c0, c1, c2] => (decO 4 Reminder.dec c0).bind fun q0 => (decI .i64 c1).bind fun q1 => (decO 4 Reminder.dec c2).bind fun q2 => (slices_Insert_Reminder N q0 q1 q2).map fun r => .sl true none 4 none (r.map Reminder.row)
  | _ => none }
theorem fso_slices_Insert_Reminder_own (N : Nat) : (fso_slices_Insert_Reminder N).own = [true, false, true] := rfl
theorem fso_slices_Insert_Reminder_pure (N : Nat) : (fso_slices_Insert_Reminder N).pure = false := rfl
theorem fso_slices_Insert_Reminder_peek (N : Nat) : (fso_slices_Insert_Reminder N).peek = false := rfl
attribute [go_sem] fso_slices_Insert_Reminder fso_slices_Insert_Reminder_own fso_slices_Insert_Reminder_pure fso_slices_Insert_Reminder_peek
theorem fso_slices_Insert_Reminder_ok (N : Nat) : FSOk Try.prog 19 (fso_slices_Insert_Reminder N) := by
  refine ⟨fun cs r h => ?_, fun h => by cases h⟩
  simp only [fso_slices_Insert_Reminder] at h
  split at h
  · simp only [Option.bind_eq_some_iff, Option.map_eq_some_iff] at h
    obtain ⟨q0, h0, q1, h1, q2, h2, r', hr, rfl⟩ := h
    exact (w_slices_Insert_Reminder N q0 q1 q2 r' hr).argsO rfl (argsO_own (decO_ok Reminder.row_ok Reminder.dec_le h0) (argsO_le (decI_le h1) (argsO_own (decO_ok Reminder.row_ok Reminder.dec_le h2) argsO_nil)))
  · cases h


noncomputable def G_reminders_Set (N d f : Nat) : Option FnS := glist [(17, 13, fs_reminders_Valid N), (21, 15, fs_reminders_between N), (26, 16, fs_reminders_validName N), (31, 15, fs_reminders_between N), (36, 15, fs_reminders_between N), (42, 17, fs_reminders_find N), (68, 18, fso_slices_Clone_Reminder N), (79, 19, fso_slices_Insert_Reminder N)] d f
attribute [go_sem] G_reminders_Set
theorem w_reminders_Set (N : Nat) (a0 : (List Reminder)) (a1 : Int) (a2 : ByteArray) (a3 : Int) (a4 : Int) (r : (List Reminder) × Int) (h : reminders_Set N a0 a1 a2 a3 a4 = some r) : Con Try.prog 8 [] true [.sl false none 4 none (a0.map Reminder.row), .val (.int .i64 a1), .val (.string a2), .val (.int .i64 a3), .val (.int .i64 a4)] (.tup [.sl true none 4 none (r.1.map Reminder.row), .val (.int .i64 r.2)]) := by
  refine fun_ok4 (G := (G_reminders_Set N)) Try.func8 rfl (by decide) (by kernel_rfl) (gc 17 (fs_reminders_Valid_ok N) (gc 21 (fs_reminders_between_ok N) (gc 26 (fs_reminders_validName_ok N) (gc 31 (fs_reminders_between_ok N) (gc 36 (fs_reminders_between_ok N) (gc 42 (fs_reminders_find_ok N) (gc 68 (fso_slices_Clone_Reminder_ok N) (gc 79 (fso_slices_Insert_Reminder_ok N) gn)))))))) [] mix (Nat.le_of_ble_eq_true rfl) ?_
  simp only [Try.f8]
  unfold reminders_Set at h
  refine Wk_seq (Wk_regionZ fun Z hZ => ?_)
  simp only [go_sem, seval]
  refine hZ _ (pp (Wk_seq ?_))
  apply Wk_join1 (fun (c13 : Bool) => ⟨tab 80 (updT (updT (updT (updT (updT (updT deadT 0 (.sl false none 4 none (a0.map Reminder.row))) 1 (.val (.int .i64 a1))) 2 (.val (.string a2))) 3 (.val (.int .i64 a3))) 4 (.val (.int .i64 a4))) 38 (.val (.bool c13))), RZ⟩)
  · intro hJ1
    obtain ⟨r14, hr2, h⟩ := Option.bind_eq_some_iff.1 h
    refine Wk_regionZ fun Z hZ => ?_
    simp only [go_sem, seval, hr2]
    refine RX_guard_nbool rfl (fun hc3 => ?_) (fun hc3 => ?_)
    · rw [if_neg (ne_true_of_eq_false hc3)] at h
      simp only [go_sem, seval, hc3]
      refine hZ _ (pp (hJ1 _ true ?_ h))
      refine weak_roots ?_ ?_ <;> repeat' first | exact xn | exact rn | refine xc ?_ ?_ | refine rc ?_ ?_ ?_ | rfl
    rw [if_pos hc3] at h
    obtain ⟨r15, hr4, h⟩ := Option.bind_eq_some_iff.1 h
    simp only [go_sem, seval, hc3, hr4]
    refine RX_guard_nbool rfl (fun hc5 => ?_) (fun hc5 => ?_)
    · rw [if_neg (ne_true_of_eq_false hc5)] at h
      simp only [go_sem, seval, hc5]
      refine hZ _ (pp (hJ1 _ true ?_ h))
      refine weak_roots ?_ ?_ <;> repeat' first | exact xn | exact rn | refine xc ?_ ?_ | refine rc ?_ ?_ ?_ | rfl
    rw [if_pos hc5] at h
    obtain ⟨r16, hr6, h⟩ := Option.bind_eq_some_iff.1 h
    simp only [go_sem, seval, hc5, hr6]
    refine RX_guard_nbool rfl (fun hc7 => ?_) (fun hc7 => ?_)
    · rw [if_neg (ne_true_of_eq_false hc7)] at h
      simp only [go_sem, seval, hc7]
      refine hZ _ (pp (hJ1 _ true ?_ h))
      refine weak_roots ?_ ?_ <;> repeat' first | exact xn | exact rn | refine xc ?_ ?_ | refine rc ?_ ?_ ?_ | rfl
    rw [if_pos hc7] at h
    obtain ⟨r17, hr8, h⟩ := Option.bind_eq_some_iff.1 h
    simp only [go_sem, seval, hc7, hr8]
    refine RX_guard_nbool rfl (fun hc9 => ?_) (fun hc9 => ?_)
    · rw [if_neg (ne_true_of_eq_false hc9)] at h
      simp only [go_sem, seval, hc9]
      refine hZ _ (pp (hJ1 _ true ?_ h))
      refine weak_roots ?_ ?_ <;> repeat' first | exact xn | exact rn | refine xc ?_ ?_ | refine rc ?_ ?_ ?_ | rfl
    rw [if_pos hc9] at h
    obtain ⟨r18, hr10, h⟩ := Option.bind_eq_some_iff.1 h
    simp only [go_sem, seval, hc9, hr10]
    refine hZ _ (pp (hJ1 _ (!r18) ?_ h))
    refine weak_roots ?_ ?_ <;> repeat' first | exact xn | exact rn | refine xc ?_ ?_ | refine rc ?_ ?_ ?_ | rfl
  intro c13 h
  unfold reminders_Set_J1 at h
  refine Wk_cond_bool rfl (fun hc11 => ?_) (fun hc11 => ?_)
  · rw [if_pos hc11] at h
    refine Wk_seq (Wk_regionZ fun Z hZ => ?_)
    simp only [go_sem, seval, hc11]
    refine hZ _ (pp (Wk_ret (pp ?_)))
    cases h
    simp only [go_sem, seval]
    exact ⟨_, rfl, RokI.h, PureI.h⟩
  rw [if_neg (ne_true_of_eq_false hc11)] at h
  refine Wk_skip (pp ?_)
  unfold reminders_Set_J4 at h
  refine Wk_seq ?_
  obtain ⟨r19, hr12, h⟩ := Option.bind_eq_some_iff.1 h
  refine Wk_regionZ fun Z hZ => ?_
  simp only [go_sem, seval, hc11, hr12]
  refine hZ _ (pp (Wk_seq (Wk_block (Wk_seq ?_))))
  obtain ⟨hd13, h⟩ := dvx_some h
  refine Wk_regionZ fun Z hZ => ?_
  simp only [go_sem, seval, hd13]
  refine hZ _ (pp (Wk_cond_dec rfl (fun hc14 => ?_) (fun hc14 => ?_)))
  · have hc14d := decide_eq_true hc14
    rw [if_pos hc14] at h
    refine Wk_seq (Wk_regionZ fun Z hZ => ?_)
    simp only [go_sem, seval, hc14d]
    refine hZ _ (pp (Wk_ret (pp ?_)))
    cases h
    simp only [go_sem, seval]
    exact ⟨_, rfl, RokI.h, PureI.h⟩
  have hc14d := decide_eq_false hc14
  rw [if_neg hc14] at h
  apply Wk_join2 (fun (c23 : Bool) (c24 : Bool) => ⟨tab 80 (updT (updT (updT (updT (updT (updT (updT (updT deadT 0 (.sl false none 4 none (a0.map Reminder.row))) 1 (.val (.int .i64 a1))) 2 (.val (.string a2))) 3 (.val (.int .i64 a3))) 4 (.val (.int .i64 a4))) 12 (.val (.int .i64 r19.1))) 13 (.val (.bool c23))) 52 (.val (.bool c24))), RZ⟩)
  · intro hJ15
    refine Wk_regionZ fun Z hZ => ?_
    simp only [go_sem, seval, hc14d]
    refine RX_guard_nbool rfl (fun hc16 => ?_) (fun hc16 => ?_)
    · rw [if_neg (ne_true_of_eq_false hc16)] at h
      simp only [go_sem, seval, hc16]
      refine hZ _ (pp (hJ15 _ false (decide (((a0.length : Nat) : Int) = 8)) ?_ h))
      refine weak_roots ?_ ?_ <;> repeat' first | exact xn | exact rn | refine xc ?_ ?_ | refine rc ?_ ?_ ?_ | rfl
    rw [if_pos hc16] at h
    simp only [go_sem, seval, hc16]
    refine hZ _ (pp (hJ15 _ true false ?_ h))
    refine weak_roots ?_ ?_ <;> repeat' first | exact xn | exact rn | refine xc ?_ ?_ | refine rc ?_ ?_ ?_ | rfl
  intro c23 c24 h
  unfold reminders_Set_J2 at h
  refine Wk_cond_bool rfl (fun hc17 => ?_) (fun hc17 => ?_)
  · rw [if_pos hc17] at h
    refine Wk_seq (Wk_regionZ fun Z hZ => ?_)
    simp only [go_sem, seval, hc17]
    refine hZ _ (pp (Wk_ret (pp ?_)))
    cases h
    simp only [go_sem, seval]
    exact ⟨_, rfl, RokI.h, PureI.h⟩
  rw [if_neg (ne_true_of_eq_false hc17)] at h
  refine Wk_skip (pp ?_)
  unfold reminders_Set_J3 at h
  refine Wk_seq (Wk_regionZ fun Z hZ => ?_)
  simp only [go_sem, seval, hc17]
  refine hZ _ (pp (Wk_seq ?_))
  obtain ⟨r25, hr18, h⟩ := Option.bind_eq_some_iff.1 h
  refine Wk_regionZ fun Z hZ => ?_
  simp only [go_sem, seval, hr18]
  refine hZ _ (pp (Wk_seq (Wk_seq (Wk_regionZ fun Z hZ => ?_))))
  simp only [go_sem, seval]
  refine hZ _ (pp (sw (Wk_cond_bool rfl) (fun hc19 => ?_) (fun hc19 => ?_)))
  · rw [if_neg (ne_true_of_eq_false hc19)] at h
    refine Wk_skip (pp (Wk_seq ?_))
    obtain ⟨r27, hr24, h⟩ := Option.bind_eq_some_iff.1 h
    refine Wk_regionZ fun Z hZ => ?_
    simp only [go_sem, seval, hc19, hr24]
    refine hZ _ (pp (Wk_ret (pp ?_)))
    cases h
    simp only [go_sem, seval]
    exact ⟨_, rfl, RokI.h, PureI.h⟩
  rw [if_pos hc19] at h
  refine Wk_seq ?_
  obtain ⟨x26, hb20, hx21, h⟩ := gx_some h
  have hx23 := set_get (y := (Reminder.mk a2 (IntKind.i64.wrap (a1 + a3)) a3 a4)) hx21
  refine Wk_regionZ fun Z hZ => ?_
  simp only [go_sem, seval, hc19, hb20, hx21, map_modify2 (row := Reminder.row) (y := (Reminder.mk a2 (IntKind.i64.wrap (a1 + a3)) a3 a4)) (rx := [.val (.string x26.Name), .val (.int .i64 x26.Due), .val (.int .i64 x26.Period), .val (.int .i64 x26.Left)]) (ry := [.val (.string a2), .val (.int .i64 (IntKind.i64.wrap (a1 + a3))), .val (.int .i64 a3), .val (.int .i64 a4)]) hx21 rfl rfl]
  refine hZ _ (pp (Wk_seq (Wk_regionZ fun Z hZ => ?_)))
  simp only [go_sem, seval]
  refine hZ _ (pp (Wk_ret (pp ?_)))
  cases h
  simp only [go_sem, seval]
  exact ⟨_, rfl, RokI.h, PureI.h⟩
def fs_reminders_Set (N : Nat) : FnS := ⟨[], true, fn5 (decL 4 Reminder.dec) (decI .i64) decS (decI .i64) (decI .i64) fun q0 q1 q2 q3 q4 => (reminders_Set N q0 q1 q2 q3 q4).map fun r => .tup [.sl false none 4 none (r.1.map Reminder.row), .val (.int .i64 r.2)], false⟩
attribute [go_sem] fs_reminders_Set
theorem fs_reminders_Set_ok (N : Nat) : FSOk Try.prog 8 (fs_reminders_Set N) := ok5 (fun q0 q1 q2 q3 q4 r h => by
  obtain ⟨r', hr, rfl⟩ := Option.map_eq_some_iff.1 h
  exact (w_reminders_Set N q0 q1 q2 q3 q4 r' hr).res (by (try simp only [go_sem]); exact RokI.h)) (fun h => decL_le Reminder.dec_le h) (decI_le) (decS_le) (decI_le) (decI_le)

def fso_reminders_Set (N : Nat) : FnS := ⟨[], true, fn5 (decL 4 Reminder.dec) (decI .i64) decS (decI .i64) (decI .i64) fun q0 q1 q2 q3 q4 => (reminders_Set N q0 q1 q2 q3 q4).map fun r => .tup [.sl true none 4 none (r.1.map Reminder.row), .val (.int .i64 r.2)], false⟩
attribute [go_sem] fso_reminders_Set
theorem fso_reminders_Set_ok (N : Nat) : FSOk Try.prog 8 (fso_reminders_Set N) := ok5 (fun q0 q1 q2 q3 q4 r h => by
  obtain ⟨r', hr, rfl⟩ := Option.map_eq_some_iff.1 h
  exact w_reminders_Set N q0 q1 q2 q3 q4 r' hr) (fun h => decL_le Reminder.dec_le h) (decI_le) (decS_le) (decI_le) (decI_le)


noncomputable def E_slices_Delete_Reminder : Env := { T := tiOf Try.prog, G := fun d f => none }
theorem E_slices_Delete_Reminder_T : E_slices_Delete_Reminder.T = tiOf Try.prog := rfl
theorem E_slices_Delete_Reminder_F (d : Nat) : E_slices_Delete_Reminder.F d = none := rfl
theorem E_slices_Delete_Reminder_ok : GOk Try.prog { T := tiOf Try.prog, G := E_slices_Delete_Reminder.G } := by
  refine ⟨?_, fun _ _ _ h => by cases h⟩
  intro d f fs hfs
  cases hfs
theorem fo_slices_Delete_Reminder : FunOk Try.prog 23 Try.f23 Try.f23.body.get! := ⟨Try.func23, rfl, by decide, by kernel_rfl⟩
set_option maxHeartbeats 4000000 in
theorem w1_slices_Delete_Reminder {α : Type} (row : α → List C) (ok : RowOk row) (l : List α) (i j : Nat) (r : List α) (hr : r = l.take i ++ l.drop j) (hij : i ≤ j) (hj : j ≤ l.length) :
    Con Try.prog 23 [true, false, false] false [.sl true none 4 none (l.map row), .val (.int .i64 i), .val (.int .i64 j)] (.sl true none 4 none (r.map row)) := by
  refine fun_own (E := E_slices_Delete_Reminder) (tiOf_ok Try.prog _) E_slices_Delete_Reminder_ok mix fo_slices_Delete_Reminder (Nat.le_of_ble_eq_true rfl) ?_
  intro _
  rw [entry_tab (by simp)]
  rw [show entryF [true, false, false] [C.sl true none 4 none (l.map row), C.val (.int .i64 i), C.val (.int .i64 j)] = (updT (updT (updT deadT 0 (.pal 0 [] 0 l.length none)) 1 (.val (.int .i64 i))) 2 (.val (.int .i64 j))) from by funext t; match t with | 0 => simp [entryF, entryTmp, viewD, updT] | 1 => rfl | 2 => rfl | t + 3 => rfl]
  rw [show R0 [true, false, false] [C.sl true none 4 none (l.map row), C.val (.int .i64 i), C.val (.int .i64 j)] = upd RZ 0 (C.sl true none 4 none (l.map row)) from by funext t; match t with | 0 => rfl | 1 => rfl | 2 => rfl | t + 3 => rfl]
  apply W_start
  simp only [Try.f23, Option.get!]
  have hi1 : (i : Int) ≤ (j : Int) := by omega
  have hj1 : (j : Int) ≤ (l.length : Int) := by omega
  have hj0 : i ≤ l.length := by omega
  simp only [go_sem, seval, E_slices_Delete_Reminder_T, E_slices_Delete_Reminder_F, hi1, hj1, hij, hj, hj0, Nat.le_refl, RowOk.frzRows ok, RowOk.all ok, RowOk.allPlain ok, RowOk.allD ok, rewritten, RX_clear, altX, roomS, roomC, reslice2X, clearX, mem_none_le, mem_some_le, Option.map_some, Nat.zero_le, Nat.sub_zero, deepV, List.isEmpty_nil, decide_not, List.length_replicate]
  refine W_cond_dec rfl (fun hc => ?_) (fun hc => ?_)
  · have e : i = j := by omega
    subst e
    simp only [go_sem, seval, E_slices_Delete_Reminder_T, E_slices_Delete_Reminder_F, hi1, hj1, hij, hj, hj0, Nat.le_refl, RowOk.frzRows ok, RowOk.all ok, RowOk.allPlain ok, RowOk.allD ok, rewritten, RX_clear, altX, roomS, roomC, reslice2X, clearX, mem_none_le, mem_some_le, Option.map_some, Nat.zero_le, Nat.sub_zero, deepV, List.isEmpty_nil, decide_not, List.length_replicate, FinO_ret, FinO_normal]
    refine fin_own ok ?_
    rw [hr]
    simp [List.take_of_length_le]
  · have hc1 : decide ((i : Int) = (j : Int)) = false := decide_eq_false hc
    have hlt : i < j := by omega
    have hlt2 : i < l.length := by omega
    have hm3 : (l.drop j).take (l.length - j) = l.drop j := List.take_of_length_le (by simp)
    have hd : (l.drop j).length = l.length - j := by simp
    have hle : i + (l.length - j) ≤ l.length := by omega
    have hnle : ¬ l.length ≤ i + (l.length - j) := by omega
    obtain ⟨A, hA⟩ : ∃ A, setRows (List.map row l) i (List.map row (List.drop j l)) = A := ⟨_, rfl⟩
    have hAp : plainL' A := by rw [← hA]; exact plainL'_set (plainL'_map ok _) (plainL'_map ok _)
    have hAl : A.length = l.length := by rw [← hA]; simp [setRows]; omega
    obtain ⟨B, hB⟩ : ∃ B, setRows A (i + (l.length - j)) (List.replicate (l.length - (i + (l.length - j))) [C.val (Value.string ⟨#[]⟩), C.val (Value.int .i64 0), C.val (Value.int .i64 0), C.val (Value.int .i64 0)]) = B := ⟨_, rfl⟩
    have hBp : plainL' B := by rw [← hB]; exact plainL'_set hAp (plainL'_vals _ [Value.string ⟨#[]⟩, Value.int .i64 0, Value.int .i64 0, Value.int .i64 0] (by simp [Value.oneCell']))
    have hBe : B.take (i + (l.length - j)) = r.map row := by
      have := del_rows (L := l.map row) (List.replicate (l.length - (i + (l.length - j))) [C.val (Value.string ⟨#[]⟩), C.val (Value.int .i64 0), C.val (Value.int .i64 0), C.val (Value.int .i64 0)]) hij (by simpa using hj)
      rw [List.length_map, ← List.map_drop, hA, hB] at this
      rw [this, hr]; simp
    simp only [go_sem, seval, E_slices_Delete_Reminder_T, E_slices_Delete_Reminder_F, hi1, hj1, hij, hj, hj0, Nat.le_refl, RowOk.frzRows ok, RowOk.all ok, RowOk.allPlain ok, RowOk.allD ok, rewritten, RX_clear, altX, roomS, roomC, reslice2X, clearX, mem_none_le, mem_some_le, Option.map_some, Nat.zero_le, Nat.sub_zero, deepV, List.isEmpty_nil, decide_not, List.length_replicate, hc1, hlt, hlt2, hm3, hd, hle, hnle, hA, hAl, hAp.1, hAp.2]
    repeat' ((with_reducible refine and_bar ?_ ?_); kernel_rfl)
    simp only [go_sem, seval, E_slices_Delete_Reminder_T, E_slices_Delete_Reminder_F, hi1, hj1, hij, hj, hj0, Nat.le_refl, RowOk.frzRows ok, RowOk.all ok, RowOk.allPlain ok, RowOk.allD ok, rewritten, RX_clear, altX, roomS, roomC, reslice2X, clearX, mem_none_le, mem_some_le, Option.map_some, Nat.zero_le, Nat.sub_zero, deepV, List.isEmpty_nil, decide_not, List.length_replicate, hc1, hlt, hlt2, hm3, hd, hle, hnle, hA, hAl, hAp.1, hAp.2, hB, hBp.1, hBp.2, FinO_ret, FinO_normal]
    repeat' ((with_reducible refine and_bar ?_ ?_); kernel_rfl)
    try simp only [go_sem, seval, E_slices_Delete_Reminder_T, E_slices_Delete_Reminder_F, hi1, hj1, hij, hj, hj0, Nat.le_refl, RowOk.frzRows ok, RowOk.all ok, RowOk.allPlain ok, RowOk.allD ok, rewritten, RX_clear, altX, roomS, roomC, reslice2X, clearX, mem_none_le, mem_some_le, Option.map_some, Nat.zero_le, Nat.sub_zero, deepV, List.isEmpty_nil, decide_not, List.length_replicate, FinO_ret, FinO_normal, hBp.1, hBp.2]
    refine fin_own ok ?_
    rw [← hBe]
theorem w_slices_Delete_Reminder (N : Nat) (a0 : List Reminder) (a1 : Int) (a2 : Int) (r : List Reminder) (h : slices_Delete_Reminder N a0 a1 a2 = some r) :
    Con Try.prog 23 [true, false, false] false [.sl true none 4 none (a0.map Reminder.row), .val (.int .i64 a1), .val (.int .i64 a2)] (.sl true none 4 none (r.map Reminder.row)) := by
  unfold slices_Delete_Reminder at h
  obtain ⟨n, m, rfl, rfl, h1, h2, h3⟩ := delM_some h
  exact w1_slices_Delete_Reminder Reminder.row Reminder.row_ok a0 n m r (Option.some.inj h3).symm h1 h2
def fso_slices_Delete_Reminder (N : Nat) : FnS := { own := [true, false, false], pure := false, fn := fun cs => match cs with
  | [c0, c1, c2] => (decO 4 Reminder.dec c0).bind fun q0 => (decI .i64 c1).bind fun q1 => (decI .i64 c2).bind fun q2 => (slices_Delete_Reminder N q0 q1 q2).map fun r => .sl true none 4 none (r.map Reminder.row)
  | _ => none }
theorem fso_slices_Delete_Reminder_own (N : Nat) : (fso_slices_Delete_Reminder N).own = [true, false, false] := rfl
theorem fso_slices_Delete_Reminder_pure (N : Nat) : (fso_slices_Delete_Reminder N).pure = false := rfl
theorem fso_slices_Delete_Reminder_peek (N : Nat) : (fso_slices_Delete_Reminder N).peek = false := rfl
attribute [go_sem] fso_slices_Delete_Reminder fso_slices_Delete_Reminder_own fso_slices_Delete_Reminder_pure fso_slices_Delete_Reminder_peek
theorem fso_slices_Delete_Reminder_ok (N : Nat) : FSOk Try.prog 23 (fso_slices_Delete_Reminder N) := by
  refine ⟨fun cs r h => ?_, fun h => by cases h⟩
  simp only [fso_slices_Delete_Reminder] at h
  split at h
  · simp only [Option.bind_eq_some_iff, Option.map_eq_some_iff] at h
    obtain ⟨q0, h0, q1, h1, q2, h2, r', hr, rfl⟩ := h
    exact (w_slices_Delete_Reminder N q0 q1 q2 r' hr).argsO rfl (argsO_own (decO_ok Reminder.row_ok Reminder.dec_le h0) (argsO_le (decI_le h1) (argsO_le (decI_le h2) argsO_nil)))
  · cases h


noncomputable def G_reminders_Fire (N d f : Nat) : Option FnS := glist [(12, 13, fs_reminders_Valid N), (17, 17, fs_reminders_find N), (32, 18, fso_slices_Clone_Reminder N), (43, 23, fso_slices_Delete_Reminder N)] d f
attribute [go_sem] G_reminders_Fire
theorem w_reminders_Fire (N : Nat) (a0 : (List Reminder)) (a1 : ByteArray) (a2 : Int) (r : (List Reminder) × Int) (h : reminders_Fire N a0 a1 a2 = some r) : Con Try.prog 11 [] true [.sl false none 4 none (a0.map Reminder.row), .val (.string a1), .val (.int .i64 a2)] (.tup [.sl true none 4 none (r.1.map Reminder.row), .val (.int .i64 r.2)]) := by
  refine fun_ok4 (G := (G_reminders_Fire N)) Try.func11 rfl (by decide) (by kernel_rfl) (gc 12 (fs_reminders_Valid_ok N) (gc 17 (fs_reminders_find_ok N) (gc 32 (fso_slices_Clone_Reminder_ok N) (gc 43 (fso_slices_Delete_Reminder_ok N) gn)))) [] mix (Nat.le_of_ble_eq_true rfl) ?_
  simp only [Try.f11]
  unfold reminders_Fire at h
  refine Wk_seq (Wk_regionZ fun Z hZ => ?_)
  simp only [go_sem, seval]
  refine hZ _ (pp (Wk_seq (Wk_seq ?_)))
  obtain ⟨r1, hr1, h⟩ := Option.bind_eq_some_iff.1 h
  refine Wk_regionZ fun Z hZ => ?_
  simp only [go_sem, seval, hr1]
  refine hZ _ (pp (Wk_cond_nbool rfl (fun hc2 => ?_) (fun hc2 => ?_)))
  · rw [if_neg (ne_true_of_eq_false hc2)] at h
    refine Wk_seq (Wk_regionZ fun Z hZ => ?_)
    simp only [go_sem, seval, hc2]
    refine hZ _ (pp (Wk_ret (pp ?_)))
    cases h
    simp only [go_sem, seval]
    exact ⟨_, rfl, RokI.h, PureI.h⟩
  rw [if_pos hc2] at h
  refine Wk_skip (pp (Wk_seq ?_))
  obtain ⟨r2, hr3, h⟩ := Option.bind_eq_some_iff.1 h
  refine Wk_regionZ fun Z hZ => ?_
  simp only [go_sem, seval, hc2, hr3]
  refine hZ _ (pp (Wk_seq (Wk_block (Wk_seq (Wk_regionZ fun Z hZ => ?_)))))
  simp only [go_sem, seval]
  refine hZ _ (pp (Wk_cond_nbool rfl (fun hc4 => ?_) (fun hc4 => ?_)))
  · rw [if_neg (ne_true_of_eq_false hc4)] at h
    refine Wk_seq (Wk_regionZ fun Z hZ => ?_)
    simp only [go_sem, seval, hc4]
    refine hZ _ (pp (Wk_ret (pp ?_)))
    cases h
    simp only [go_sem, seval]
    exact ⟨_, rfl, RokI.h, PureI.h⟩
  rw [if_pos hc4] at h
  refine Wk_seq ?_
  obtain ⟨x3, hb5, hx6, h⟩ := gx_some h
  refine Wk_regionZ fun Z hZ => ?_
  simp only [go_sem, seval, hc4, hb5, hx6]
  refine hZ _ (pp (Wk_cond_ndec rfl (fun hc7 => ?_) (fun hc7 => ?_)))
  · have hc7d := decide_eq_false hc7
    rw [if_neg hc7] at h
    refine Wk_seq (Wk_regionZ fun Z hZ => ?_)
    simp only [go_sem, seval, hc7d]
    refine hZ _ (pp (Wk_ret (pp ?_)))
    cases h
    simp only [go_sem, seval]
    exact ⟨_, rfl, RokI.h, PureI.h⟩
  have hc7d := decide_eq_true hc7
  rw [if_pos hc7] at h
  refine Wk_skip (pp (Wk_seq ?_))
  obtain ⟨r4, hr8, h⟩ := Option.bind_eq_some_iff.1 h
  refine Wk_regionZ fun Z hZ => ?_
  simp only [go_sem, seval, hc7d, hr8]
  refine hZ _ (pp (Wk_seq (Wk_seq ?_)))
  obtain ⟨x5, hb9, hx10, h⟩ := gx_some h
  refine Wk_regionZ fun Z hZ => ?_
  simp only [go_sem, seval, hb5, hb9, hx10]
  refine hZ _ (pp (Wk_cond_dec rfl (fun hc11 => ?_) (fun hc11 => ?_)))
  · have hc11d := decide_eq_true hc11
    rw [if_pos hc11] at h
    refine Wk_seq ?_
    obtain ⟨r6, hr12, h⟩ := Option.bind_eq_some_iff.1 h
    refine Wk_regionZ fun Z hZ => ?_
    simp only [go_sem, seval, hc11d, hr12]
    refine hZ _ (pp (Wk_ret (pp ?_)))
    cases h
    simp only [go_sem, seval]
    exact ⟨_, rfl, RokI.h, PureI.h⟩
  have hc11d := decide_eq_false hc11
  rw [if_neg hc11] at h
  refine Wk_skip (pp (Wk_seq ?_))
  have hx14 := set_get (y := (Reminder.mk x5.Name (IntKind.i64.wrap (x5.Due + x5.Period)) x5.Period x5.Left)) hx10
  refine Wk_regionD fun Z hZ => ?_
  simp only [go_sem, seval, hb5, hb9, hx10, hc11d, map_modify2 (row := Reminder.row) (y := (Reminder.mk x5.Name (IntKind.i64.wrap (x5.Due + x5.Period)) x5.Period x5.Left)) (rx := [.val (.string x5.Name), .val (.int .i64 x5.Due), .val (.int .i64 x5.Period), .val (.int .i64 x5.Left)]) (ry := [.val (.string x5.Name), .val (.int .i64 (IntKind.i64.wrap (x5.Due + x5.Period))), .val (.int .i64 x5.Period), .val (.int .i64 x5.Left)]) hx10 rfl rfl]
  repeat with_reducible refine and_bar (by kernel_rfl) ?_
  refine hZ _ (by kernel_rfl) (pp (Wk_seq ?_))
  have hx16 := set_get (y := (Reminder.mk x5.Name (IntKind.i64.wrap (x5.Due + x5.Period)) x5.Period (IntKind.i64.wrap (x5.Left - 1)))) hx10
  refine Wk_regionZ fun Z hZ => ?_
  simp only [go_sem, seval, hb5, hb9, hx14, map_modify3 (row := Reminder.row) (y0 := (Reminder.mk x5.Name (IntKind.i64.wrap (x5.Due + x5.Period)) x5.Period x5.Left)) (y := (Reminder.mk x5.Name (IntKind.i64.wrap (x5.Due + x5.Period)) x5.Period (IntKind.i64.wrap (x5.Left - 1)))) (rx := [.val (.string x5.Name), .val (.int .i64 (IntKind.i64.wrap (x5.Due + x5.Period))), .val (.int .i64 x5.Period), .val (.int .i64 x5.Left)]) (ry := [.val (.string x5.Name), .val (.int .i64 (IntKind.i64.wrap (x5.Due + x5.Period))), .val (.int .i64 x5.Period), .val (.int .i64 (IntKind.i64.wrap (x5.Left - 1)))]) hx10 rfl rfl]
  refine hZ _ (pp (Wk_seq (Wk_regionZ fun Z hZ => ?_)))
  simp only [go_sem, seval]
  refine hZ _ (pp (Wk_ret (pp ?_)))
  cases h
  simp only [go_sem, seval]
  exact ⟨_, rfl, RokI.h, PureI.h⟩
def fs_reminders_Fire (N : Nat) : FnS := ⟨[], true, fn3 (decL 4 Reminder.dec) decS (decI .i64) fun q0 q1 q2 => (reminders_Fire N q0 q1 q2).map fun r => .tup [.sl false none 4 none (r.1.map Reminder.row), .val (.int .i64 r.2)], false⟩
attribute [go_sem] fs_reminders_Fire
theorem fs_reminders_Fire_ok (N : Nat) : FSOk Try.prog 11 (fs_reminders_Fire N) := ok3 (fun q0 q1 q2 r h => by
  obtain ⟨r', hr, rfl⟩ := Option.map_eq_some_iff.1 h
  exact (w_reminders_Fire N q0 q1 q2 r' hr).res (by (try simp only [go_sem]); exact RokI.h)) (fun h => decL_le Reminder.dec_le h) (decS_le) (decI_le)

def fso_reminders_Fire (N : Nat) : FnS := ⟨[], true, fn3 (decL 4 Reminder.dec) decS (decI .i64) fun q0 q1 q2 => (reminders_Fire N q0 q1 q2).map fun r => .tup [.sl true none 4 none (r.1.map Reminder.row), .val (.int .i64 r.2)], false⟩
attribute [go_sem] fso_reminders_Fire
theorem fso_reminders_Fire_ok (N : Nat) : FSOk Try.prog 11 (fso_reminders_Fire N) := ok3 (fun q0 q1 q2 r h => by
  obtain ⟨r', hr, rfl⟩ := Option.map_eq_some_iff.1 h
  exact w_reminders_Fire N q0 q1 q2 r' hr) (fun h => decL_le Reminder.dec_le h) (decS_le) (decI_le)


noncomputable def G_law29_awake (N d f : Nat) : Option FnS := glist [(6, 8, fs_reminders_Set N), (25, 11, fs_reminders_Fire N), (44, 11, fs_reminders_Fire N), (49, 11, fs_reminders_Fire N), (65, 13, fs_reminders_Valid N)] d f
attribute [go_sem] G_law29_awake
theorem w_law29_awake (N : Nat)  (r : Bool) (h : law29_awake N  = some r) : Con Try.prog 7 [] true [] (.val (.bool r)) := by
  refine fun_ok4 (G := (G_law29_awake N)) Try.func7 rfl (by decide) (by kernel_rfl) (gc 6 (fs_reminders_Set_ok N) (gc 25 (fs_reminders_Fire_ok N) (gc 44 (fs_reminders_Fire_ok N) (gc 49 (fs_reminders_Fire_ok N) (gc 65 (fs_reminders_Valid_ok N) gn))))) [] mix (Nat.le_of_ble_eq_true rfl) ?_
  simp only [Try.f7]
  unfold law29_awake at h
  refine Wk_seq (Wk_regionZ fun Z hZ => ?_)
  simp only [go_sem, seval]
  refine hZ _ (pp (Wk_seq ?_))
  obtain ⟨r1, hr1, h⟩ := Option.bind_eq_some_iff.1 h
  refine Wk_regionZ fun Z hZ => ?_
  simp only [go_sem, seval, hr1]
  refine hZ _ (pp (Wk_seq ?_))
  apply Wk_join1 (fun (c6 : Bool) => ⟨tab 67 (updT (updT deadT 1 (.sl false none 4 none (r1.1.map Reminder.row))) 22 (.val (.bool c6))), RZ⟩)
  · intro hJ2
    refine Wk_regionZ fun Z hZ => ?_
    simp only [go_sem, seval]
    refine RX_guard_ndec rfl (fun hc3 => ?_) (fun hc3 => ?_)
    · have hc3d := decide_eq_false hc3
      rw [if_neg hc3] at h
      simp only [go_sem, seval, hc3d]
      refine hZ _ (pp (hJ2 _ true ?_ h))
      refine weak_roots ?_ ?_ <;> repeat' first | exact xn | exact rn | refine xc ?_ ?_ | refine rc ?_ ?_ ?_ | rfl
    have hc3d := decide_eq_true hc3
    rw [if_pos hc3] at h
    simp only [go_sem, seval, hc3d]
    refine RX_guard_ndec rfl (fun hc4 => ?_) (fun hc4 => ?_)
    · have hc4d := decide_eq_false hc4
      rw [if_neg hc4] at h
      simp only [go_sem, seval, hc4d]
      refine hZ _ (pp (hJ2 _ true ?_ h))
      refine weak_roots ?_ ?_ <;> repeat' first | exact xn | exact rn | refine xc ?_ ?_ | refine rc ?_ ?_ ?_ | rfl
    have hc4d := decide_eq_true hc4
    rw [if_pos hc4] at h
    obtain ⟨x7, hb5, hx6, h⟩ := gx_some h
    try simp only [Int.toNat_zero] at hx6
    try simp only [Int.ofNat_lt, Int.natCast_nonneg, true_and] at hb5
    simp only [go_sem, seval, hc4d, hb5, hx6]
    refine hZ _ (pp (hJ2 _ (!(sEq x7.Name (⟨#[97]⟩) && (decide (x7.Due = 15) && (decide (x7.Period = 5) && decide (x7.Left = 2))))) ?_ h))
    refine weak_roots ?_ ?_ <;> repeat' first | exact xn | exact rn | refine xc ?_ ?_ | refine rc ?_ ?_ ?_ | rfl
  intro c6 h
  unfold law29_awake_J1 at h
  refine Wk_cond_bool rfl (fun hc7 => ?_) (fun hc7 => ?_)
  · rw [if_pos hc7] at h
    refine Wk_seq (Wk_regionZ fun Z hZ => ?_)
    simp only [go_sem, seval, hc7]
    refine hZ _ (pp (Wk_ret (pp ?_)))
    cases h
    simp only [go_sem, seval]
    exact ⟨_, rfl, RokI.h, PureI.h⟩
  rw [if_neg (ne_true_of_eq_false hc7)] at h
  refine Wk_skip (pp ?_)
  unfold law29_awake_J4 at h
  refine Wk_seq ?_
  obtain ⟨r8, hr8, h⟩ := Option.bind_eq_some_iff.1 h
  refine Wk_regionZ fun Z hZ => ?_
  simp only [go_sem, seval, hc7, hr8]
  refine hZ _ (pp (Wk_seq ?_))
  apply Wk_join1 (fun (c13 : Bool) => ⟨tab 67 (updT (updT deadT 1 (.sl false none 4 none (r8.1.map Reminder.row))) 41 (.val (.bool c13))), RZ⟩)
  · intro hJ9
    refine Wk_regionZ fun Z hZ => ?_
    simp only [go_sem, seval]
    refine RX_guard_ndec rfl (fun hc10 => ?_) (fun hc10 => ?_)
    · have hc10d := decide_eq_false hc10
      rw [if_neg hc10] at h
      simp only [go_sem, seval, hc10d]
      refine hZ _ (pp (hJ9 _ true ?_ h))
      refine weak_roots ?_ ?_ <;> repeat' first | exact xn | exact rn | refine xc ?_ ?_ | refine rc ?_ ?_ ?_ | rfl
    have hc10d := decide_eq_true hc10
    rw [if_pos hc10] at h
    simp only [go_sem, seval, hc10d]
    refine RX_guard_ndec rfl (fun hc11 => ?_) (fun hc11 => ?_)
    · have hc11d := decide_eq_false hc11
      rw [if_neg hc11] at h
      simp only [go_sem, seval, hc11d]
      refine hZ _ (pp (hJ9 _ true ?_ h))
      refine weak_roots ?_ ?_ <;> repeat' first | exact xn | exact rn | refine xc ?_ ?_ | refine rc ?_ ?_ ?_ | rfl
    have hc11d := decide_eq_true hc11
    rw [if_pos hc11] at h
    obtain ⟨x14, hb12, hx13, h⟩ := gx_some h
    try simp only [Int.toNat_zero] at hx13
    try simp only [Int.ofNat_lt, Int.natCast_nonneg, true_and] at hb12
    simp only [go_sem, seval, hc11d, hb12, hx13]
    refine hZ _ (pp (hJ9 _ (!decide (x14.Due = 20)) ?_ h))
    refine weak_roots ?_ ?_ <;> repeat' first | exact xn | exact rn | refine xc ?_ ?_ | refine rc ?_ ?_ ?_ | rfl
  intro c13 h
  unfold law29_awake_J2 at h
  refine Wk_cond_bool rfl (fun hc14 => ?_) (fun hc14 => ?_)
  · rw [if_pos hc14] at h
    refine Wk_seq (Wk_regionZ fun Z hZ => ?_)
    simp only [go_sem, seval, hc14]
    refine hZ _ (pp (Wk_ret (pp ?_)))
    cases h
    simp only [go_sem, seval]
    exact ⟨_, rfl, RokI.h, PureI.h⟩
  rw [if_neg (ne_true_of_eq_false hc14)] at h
  refine Wk_skip (pp ?_)
  unfold law29_awake_J3 at h
  refine Wk_seq ?_
  obtain ⟨r15, hr15, h⟩ := Option.bind_eq_some_iff.1 h
  refine Wk_regionZ fun Z hZ => ?_
  simp only [go_sem, seval, hc14, hr15]
  refine hZ _ (pp (Wk_seq ?_))
  obtain ⟨r16, hr16, h⟩ := Option.bind_eq_some_iff.1 h
  refine Wk_regionZ fun Z hZ => ?_
  simp only [go_sem, seval, hr16]
  refine hZ _ (pp (Wk_seq (Wk_regionZ fun Z hZ => ?_)))
  simp only [go_sem, seval]
  refine sw (RX_guard_dec rfl) (fun hc17 => ?_) (fun hc17 => ?_)
  · have hc17d := decide_eq_false hc17
    rw [if_neg hc17] at h
    simp only [go_sem, seval, hc17d]
    refine hZ _ (pp (Wk_ret (pp ?_)))
    cases h
    simp only [go_sem, seval]
    exact ⟨_, rfl, RokI.h, PureI.h⟩
  have hc17d := decide_eq_true hc17
  rw [if_pos hc17] at h
  simp only [go_sem, seval, hc17d]
  refine sw (RX_guard_dec rfl) (fun hc18 => ?_) (fun hc18 => ?_)
  · have hc18d := decide_eq_false hc18
    rw [if_neg hc18] at h
    simp only [go_sem, seval, hc18d]
    refine hZ _ (pp (Wk_ret (pp ?_)))
    cases h
    simp only [go_sem, seval]
    exact ⟨_, rfl, RokI.h, PureI.h⟩
  have hc18d := decide_eq_true hc18
  rw [if_pos hc18] at h
  simp only [go_sem, seval, hc18d]
  refine RX_guard_dec rfl (fun hc19 => ?_) (fun hc19 => ?_)
  · have hc19d := decide_eq_true hc19
    rw [if_pos hc19] at h
    obtain ⟨r17, hr20, h⟩ := Option.bind_eq_some_iff.1 h
    simp only [go_sem, seval, hc19d, hr20]
    refine hZ _ (pp (Wk_ret (pp ?_)))
    cases h
    simp only [go_sem, seval]
    exact ⟨_, rfl, RokI.h, PureI.h⟩
  have hc19d := decide_eq_false hc19
  rw [if_neg hc19] at h
  simp only [go_sem, seval, hc19d]
  refine hZ _ (pp (Wk_ret (pp ?_)))
  cases h
  simp only [go_sem, seval]
  exact ⟨_, rfl, RokI.h, PureI.h⟩
def fs_law29_awake (N : Nat) : FnS := { own := [], pure := true, fn := fun cs => match cs with
  | [] =>  (law29_awake N ).map fun r => .val (.bool r)
  | _ => none }
attribute [go_sem] fs_law29_awake
theorem fs_law29_awake_ok (N : Nat) : FSOk Try.prog 7 (fs_law29_awake N) := by
  refine ⟨fun cs r h => ?_, fun h => by cases h⟩
  simp only [fs_law29_awake] at h
  split at h
  · simp only [Option.map_eq_some_iff] at h
    obtain ⟨r', hr, rfl⟩ := h
    exact ((w_law29_awake N  r' hr).args (LeL.nil))
  · cases h


theorem w_law29_name (N : Nat) (a0 : Int) (r : ByteArray) (h : law29_name N a0 = some r) : Con Try.prog 9 [] true [.val (.int .u8 a0)] (.val (.string r)) := by
  refine fun_ok4 (G := (glist [])) Try.func9 rfl (by decide) (by kernel_rfl) gn [] mix (Nat.le_of_ble_eq_true rfl) ?_
  simp only [Try.f9]
  unfold law29_name at h
  refine Wk_seq (Wk_regionZ fun Z hZ => ?_)
  simp only [go_sem, seval]
  refine hZ _ (pp (Wk_seq (Wk_regionZ fun Z hZ => ?_)))
  simp only [go_sem, seval]
  refine hZ _ (pp (Wk_seq ?_))
  obtain ⟨hs1, h⟩ := sls_some h
  simp only [ByteArray.size, List.size_toArray, List.length_cons, List.length_nil, Nat.reduceAdd] at hs1
  refine Wk_regionZ fun Z hZ => ?_
  simp only [go_sem, seval, hs1]
  refine hZ _ (pp (Wk_ret (pp ?_)))
  cases h
  simp only [go_sem, seval]
  exact ⟨_, rfl, RokI.h, PureI.h⟩
def fs_law29_name (N : Nat) : FnS := ⟨[], true, fn1 (decI .u8) fun q0 => (law29_name N q0).map fun r => .val (.string r), false⟩
attribute [go_sem] fs_law29_name
theorem fs_law29_name_ok (N : Nat) : FSOk Try.prog 9 (fs_law29_name N) := ok1 (fun q0 r h => by
  obtain ⟨r', hr, rfl⟩ := Option.map_eq_some_iff.1 h
  exact w_law29_name N q0 r' hr) (decI_le)


theorem w_cmp_isNaN_int (N : Nat) (a0 : Int) (r : Bool) (h : cmp_isNaN_int N a0 = some r) : Con Try.prog 32 [] true [.val (.int .i64 a0)] (.val (.bool r)) := by
  refine fun_ok4 (G := (glist [])) Try.func32 rfl (by decide) (by kernel_rfl) gn [] mix (Nat.le_of_ble_eq_true rfl) ?_
  simp only [Try.f32]
  unfold cmp_isNaN_int at h
  refine Wk_seq (Wk_regionZ fun Z hZ => ?_)
  simp only [go_sem, seval]
  refine hZ _ (pp (Wk_seq (Wk_regionZ fun Z hZ => ?_)))
  simp only [go_sem, seval]
  refine hZ _ (pp (Wk_ret (pp ?_)))
  cases h
  simp only [go_sem, seval]
  exact ⟨_, rfl, RokI.h, PureI.h⟩
def fs_cmp_isNaN_int (N : Nat) : FnS := ⟨[], true, fn1 (decI .i64) fun q0 => (cmp_isNaN_int N q0).map fun r => .val (.bool r), false⟩
attribute [go_sem] fs_cmp_isNaN_int
theorem fs_cmp_isNaN_int_ok (N : Nat) : FSOk Try.prog 32 (fs_cmp_isNaN_int N) := ok1 (fun q0 r h => by
  obtain ⟨r', hr, rfl⟩ := Option.map_eq_some_iff.1 h
  exact w_cmp_isNaN_int N q0 r' hr) (decI_le)


noncomputable def G_cmp_Compare_int (N d f : Nat) : Option FnS := glist [(8, 32, fs_cmp_isNaN_int N), (10, 32, fs_cmp_isNaN_int N)] d f
attribute [go_sem] G_cmp_Compare_int
theorem w_cmp_Compare_int (N : Nat) (a0 : Int) (a1 : Int) (r : Int) (h : cmp_Compare_int N a0 a1 = some r) : Con Try.prog 22 [] true [.val (.int .i64 a0), .val (.int .i64 a1)] (.val (.int .i64 r)) := by
  refine fun_ok4 (G := (G_cmp_Compare_int N)) Try.func22 rfl (by decide) (by kernel_rfl) (gc 8 (fs_cmp_isNaN_int_ok N) (gc 10 (fs_cmp_isNaN_int_ok N) gn)) [] mix (Nat.le_of_ble_eq_true rfl) ?_
  simp only [Try.f22]
  unfold cmp_Compare_int at h
  refine Wk_seq (Wk_regionZ fun Z hZ => ?_)
  simp only [go_sem, seval]
  refine hZ _ (pp (Wk_seq ?_))
  obtain ⟨r1, hr1, h⟩ := Option.bind_eq_some_iff.1 h
  refine Wk_regionZ fun Z hZ => ?_
  simp only [go_sem, seval, hr1]
  refine hZ _ (pp (Wk_seq ?_))
  obtain ⟨r2, hr2, h⟩ := Option.bind_eq_some_iff.1 h
  refine Wk_regionZ fun Z hZ => ?_
  simp only [go_sem, seval, hr2]
  refine hZ _ (pp (Wk_seq (Wk_seq (Wk_regionZ fun Z hZ => ?_))))
  simp only [go_sem, seval]
  refine hZ _ (pp (Wk_cond_bool rfl (fun hc3 => ?_) (fun hc3 => ?_)))
  · rw [if_pos hc3] at h
    refine Wk_seq (Wk_seq (Wk_regionZ fun Z hZ => ?_))
    simp only [go_sem, seval, hc3]
    refine hZ _ (pp (Wk_cond_bool rfl (fun hc4 => ?_) (fun hc4 => ?_)))
    · rw [if_pos hc4] at h
      refine Wk_seq (Wk_regionZ fun Z hZ => ?_)
      simp only [go_sem, seval, hc4]
      refine hZ _ (pp (Wk_ret (pp ?_)))
      cases h
      simp only [go_sem, seval]
      exact ⟨_, rfl, RokI.h, PureI.h⟩
    rw [if_neg (ne_true_of_eq_false hc4)] at h
    refine Wk_skip (pp (Wk_seq (Wk_regionZ fun Z hZ => ?_)))
    simp only [go_sem, seval, hc4]
    refine hZ _ (pp (Wk_ret (pp ?_)))
    cases h
    simp only [go_sem, seval]
    exact ⟨_, rfl, RokI.h, PureI.h⟩
  rw [if_neg (ne_true_of_eq_false hc3)] at h
  refine Wk_skip (pp (Wk_seq (Wk_seq (Wk_regionZ fun Z hZ => ?_))))
  simp only [go_sem, seval, hc3]
  refine hZ _ (pp (Wk_cond_bool rfl (fun hc5 => ?_) (fun hc5 => ?_)))
  · rw [if_pos hc5] at h
    refine Wk_seq (Wk_regionZ fun Z hZ => ?_)
    simp only [go_sem, seval, hc5]
    refine hZ _ (pp (Wk_ret (pp ?_)))
    cases h
    simp only [go_sem, seval]
    exact ⟨_, rfl, RokI.h, PureI.h⟩
  rw [if_neg (ne_true_of_eq_false hc5)] at h
  refine Wk_skip (pp (Wk_seq (Wk_seq (Wk_regionZ fun Z hZ => ?_))))
  simp only [go_sem, seval, hc5]
  refine hZ _ (pp (Wk_cond_dec rfl (fun hc6 => ?_) (fun hc6 => ?_)))
  · have hc6d := decide_eq_true hc6
    rw [if_pos hc6] at h
    refine Wk_seq (Wk_regionZ fun Z hZ => ?_)
    simp only [go_sem, seval, hc6d]
    refine hZ _ (pp (Wk_ret (pp ?_)))
    cases h
    simp only [go_sem, seval]
    exact ⟨_, rfl, RokI.h, PureI.h⟩
  have hc6d := decide_eq_false hc6
  rw [if_neg hc6] at h
  refine Wk_skip (pp (Wk_seq (Wk_seq (Wk_regionZ fun Z hZ => ?_))))
  simp only [go_sem, seval, hc6d]
  refine hZ _ (pp (Wk_cond_dec rfl (fun hc7 => ?_) (fun hc7 => ?_)))
  · have hc7d := decide_eq_true hc7
    rw [if_pos hc7] at h
    refine Wk_seq (Wk_regionZ fun Z hZ => ?_)
    simp only [go_sem, seval, hc7d]
    refine hZ _ (pp (Wk_ret (pp ?_)))
    cases h
    simp only [go_sem, seval]
    exact ⟨_, rfl, RokI.h, PureI.h⟩
  have hc7d := decide_eq_false hc7
  rw [if_neg hc7] at h
  refine Wk_skip (pp (Wk_seq (Wk_regionZ fun Z hZ => ?_)))
  simp only [go_sem, seval, hc7d]
  refine hZ _ (pp (Wk_ret (pp ?_)))
  cases h
  simp only [go_sem, seval]
  exact ⟨_, rfl, RokI.h, PureI.h⟩
def fs_cmp_Compare_int (N : Nat) : FnS := ⟨[], true, fn2 (decI .i64) (decI .i64) fun q0 q1 => (cmp_Compare_int N q0 q1).map fun r => .val (.int .i64 r), false⟩
attribute [go_sem] fs_cmp_Compare_int
theorem fs_cmp_Compare_int_ok (N : Nat) : FSOk Try.prog 22 (fs_cmp_Compare_int N) := ok2 (fun q0 q1 r h => by
  obtain ⟨r', hr, rfl⟩ := Option.map_eq_some_iff.1 h
  exact w_cmp_Compare_int N q0 q1 r' hr) (decI_le) (decI_le)


noncomputable def G_reminders_Due_1 (N d f : Nat) : Option FnS := glist [(9, 22, fs_cmp_Compare_int N)] d f
attribute [go_sem] G_reminders_Due_1
theorem w_reminders_Due_1 (N : Nat) (a0 : Reminder) (a1 : Reminder) (r : Int) (h : reminders_Due_1 N a0 a1 = some r) : Con Try.prog 21 [] true [.agg (Reminder.row a0), .agg (Reminder.row a1)] (.val (.int .i64 r)) := by
  refine fun_ok4 (G := (G_reminders_Due_1 N)) Try.func21 rfl (by decide) (by kernel_rfl) (gc 9 (fs_cmp_Compare_int_ok N) gn) [] mix (Nat.le_of_ble_eq_true rfl) ?_
  simp only [Try.f21]
  unfold reminders_Due_1 at h
  refine Wk_seq (Wk_regionZ fun Z hZ => ?_)
  simp only [go_sem, seval]
  refine hZ _ (pp (Wk_seq ?_))
  obtain ⟨r1, hr1, h⟩ := Option.bind_eq_some_iff.1 h
  refine Wk_regionZ fun Z hZ => ?_
  simp only [go_sem, seval, hr1]
  refine hZ _ (pp (Wk_ret (pp ?_)))
  cases h
  simp only [go_sem, seval]
  exact ⟨_, rfl, RokI.h, PureI.h⟩
def fs_reminders_Due_1 (N : Nat) : FnS := ⟨[], true, fn2 Reminder.decA Reminder.decA fun q0 q1 => (reminders_Due_1 N q0 q1).map fun r => .val (.int .i64 r), false⟩
attribute [go_sem] fs_reminders_Due_1
theorem fs_reminders_Due_1_ok (N : Nat) : FSOk Try.prog 21 (fs_reminders_Due_1 N) := ok2 (fun q0 q1 r h => by
  obtain ⟨r', hr, rfl⟩ := Option.map_eq_some_iff.1 h
  exact w_reminders_Due_1 N q0 q1 r' hr) (Reminder.decA_le) (Reminder.decA_le)


noncomputable def G_slices_insertionSortCmpFunc_Reminder_reminders_Due_1 (N d f : Nat) : Option FnS := glist [(32, 21, fs_reminders_Due_1 N)] d f
attribute [go_sem] G_slices_insertionSortCmpFunc_Reminder_reminders_Due_1
theorem len_slices_insertionSortCmpFunc_Reminder_reminders_Due_1 (N : Nat) (a0 : (List Reminder)) (a1 : Int) (a2 : Int) (r : (List Reminder)) (h : slices_insertionSortCmpFunc_Reminder_reminders_Due_1 N a0 a1 a2 = some r) : (r).length = a0.length := by
  unfold slices_insertionSortCmpFunc_Reminder_reminders_Due_1 at h; exact (lenM_some h).2
theorem w_slices_insertionSortCmpFunc_Reminder_reminders_Due_1 (N : Nat) (a0 : (List Reminder)) (a1 : Int) (a2 : Int) (r : (List Reminder)) (h : slices_insertionSortCmpFunc_Reminder_reminders_Due_1 N a0 a1 a2 = some r) : ConL Try.prog 35 1 [.sl true none 4 none (a0.map Reminder.row), .val (.int .i64 a1), .val (.int .i64 a2), .clo 21 []] (.tup []) [.sl true none 4 none (r.map Reminder.row)] := by
  unfold slices_insertionSortCmpFunc_Reminder_reminders_Due_1 at h
  obtain ⟨h, hlen⟩ := lenM_some h
  refine fun_lent5 (G := (G_slices_insertionSortCmpFunc_Reminder_reminders_Due_1 N)) (L := noL) Try.func35 rfl (by decide) (by kernel_rfl) 1 (by kernel_rfl) (gc 32 (fs_reminders_Due_1_ok N) gn) (fun _ _ _ h => by cases h) [] mix (Nat.le_of_ble_eq_true rfl) (Nat.le_of_ble_eq_true rfl) rfl (by simp [lentSh, hlen]) ?_
  simp only [Try.f35]
  refine Wk_seq (Wk_regionZ fun Z hZ => ?_)
  simp only [go_sem, seval]
  refine hZ _ (pp (Wk_block (Wk_fuel (fun (b : List Reminder × Int) => ⟨tab 53 (updT (updT (updT (updT (updT deadT 0 (.pal 0 [] 0 b.1.length none)) 1 (.val (.int .i64 a1))) 2 (.val (.int .i64 a2))) 3 (.clo 21 [])) 8 (.val (.int .i64 b.2))), (upd RZ 0 (.sl true none 4 none (b.1.map Reminder.row)))⟩) (a0, IntKind.i64.wrap (a1 + 1)) h ?_ ?_)))
  · refine weak_roots ?_ ?_ <;> repeat' first | exact xn | exact rn | refine xc ?_ ?_ | refine rc ?_ ?_ ?_ | rfl | simp only [go_sem, seval, Bool.or_self, List.length_set, Int.natCast_zero, Int.cast_ofNat_Int]
  rintro n ⟨l1, v2⟩ h -
  cases n with
  | zero => simp [slices_insertionSortCmpFunc_Reminder_reminders_Due_1_L1] at h
  | succ n =>
  simp only [slices_insertionSortCmpFunc_Reminder_reminders_Due_1_L1] at h
  refine Wk_seq (Wk_seq (Wk_regionZ fun Z hZ => ?_))
  simp only [go_sem, seval]
  refine hZ _ (pp (sw (Wk_cond_dec rfl) (fun hc1 => ?_) (fun hc1 => ?_)))
  · have hc1d := decide_eq_false hc1
    rw [if_neg hc1] at h
    refine Wk_exit (pp ?_)
    obtain rfl := Option.some.inj h
    refine FinL_mk (.inr rfl) (Weak.refl _) (by simp only [go_sem, seval, hc1d]; rfl) (by simp only [go_sem, seval]; rfl) (by (try simp only [go_sem, seval, Bool.or_self, List.length_set, Int.natCast_zero, Int.cast_ofNat_Int, hc1d]); first | exact Le.refl _ | exact LeI.h) ?_
    exact el_cons (by simp only [go_sem, seval, hc1d] <;> rfl) (by simp only [go_sem, seval] <;> rfl) (el_nil)
  have hc1d := decide_eq_true hc1
  rw [if_pos hc1] at h
  refine Wk_skip (pp (Wk_seq (Wk_block (Wk_seq (Wk_regionZ fun Z hZ => ?_)))))
  simp only [go_sem, seval, hc1d]
  refine hZ _ (pp (Wk_block (Wk_fuel (fun (b : List Reminder × Int) => ⟨tab 53 (updT (updT (updT (updT (updT (updT deadT 0 (.pal 0 [] 0 b.1.length none)) 1 (.val (.int .i64 a1))) 2 (.val (.int .i64 a2))) 3 (.clo 21 [])) 8 (.val (.int .i64 v2))) 9 (.val (.int .i64 b.2))), (upd RZ 0 (.sl true none 4 none (b.1.map Reminder.row)))⟩) (l1, v2) h ?_ ?_)))
  · refine weak_roots ?_ ?_ <;> repeat' first | exact xn | exact rn | refine xc ?_ ?_ | refine rc ?_ ?_ ?_ | rfl | simp only [go_sem, seval, Bool.or_self, List.length_set, Int.natCast_zero, Int.cast_ofNat_Int, hc1d]
  rintro n ⟨l6, v7⟩ h -
  cases n with
  | zero => simp [slices_insertionSortCmpFunc_Reminder_reminders_Due_1_L2] at h
  | succ n =>
  simp only [slices_insertionSortCmpFunc_Reminder_reminders_Due_1_L2] at h
  refine Wk_seq ?_
  apply Wk_join1 (fun (c9 : Bool) => ⟨tab 53 (updT (updT (updT (updT (updT (updT (updT deadT 0 (.pal 0 [] 0 l6.length none)) 1 (.val (.int .i64 a1))) 2 (.val (.int .i64 a2))) 3 (.clo 21 [])) 8 (.val (.int .i64 v2))) 9 (.val (.int .i64 v7))) 34 (.val (.bool c9))), (upd RZ 0 (.sl true none 4 none (l6.map Reminder.row)))⟩)
  · intro hJ2
    refine Wk_regionD fun Z hZ => ?_
    simp only [go_sem, seval]
    refine sw (RX_guard_dec rfl) (fun hc3 => ?_) (fun hc3 => ?_)
    · have hc3d := decide_eq_false hc3
      rw [if_neg hc3] at h
      simp only [go_sem, seval, hc3d]
      refine hZ _ (by kernel_rfl) (pp (hJ2 _ false ?_ h))
      refine weak_roots ?_ ?_ <;> repeat' first | exact xn | exact rn | refine xc ?_ ?_ | refine rc ?_ ?_ ?_ | rfl | simp only [go_sem, seval, Bool.or_self, List.length_set, Int.natCast_zero, Int.cast_ofNat_Int, hc1d, hc3d]
    have hc3d := decide_eq_true hc3
    rw [if_pos hc3] at h
    obtain ⟨x10, hb4, hx5, h⟩ := gx_some h
    obtain ⟨x11, hb6, hx7, h⟩ := gx_some h
    obtain ⟨r12, hr8, h⟩ := Option.bind_eq_some_iff.1 h
    simp only [go_sem, seval, hc3d, hb4, hx5, hb6, hx7, hr8]
    repeat with_reducible refine and_bar (by kernel_rfl) ?_
    refine hZ _ (by kernel_rfl) (pp (hJ2 _ (decide (r12 < 0)) ?_ h))
    refine weak_roots ?_ ?_ <;> repeat' first | exact xn | exact rn | refine xc ?_ ?_ | refine rc ?_ ?_ ?_ | rfl | simp only [go_sem, seval, Bool.or_self, List.length_set, Int.natCast_zero, Int.cast_ofNat_Int, hc1d, hc3d, hb4, hx5, hb6, hx7, hr8]
  intro c9 h
  unfold slices_insertionSortCmpFunc_Reminder_reminders_Due_1_J1 at h
  refine sw (Wk_cond_bool rfl) (fun hc9 => ?_) (fun hc9 => ?_)
  · rw [if_neg (ne_true_of_eq_false hc9)] at h
    refine Wk_exit (pp (Wk_regionZ fun Z hZ => ?_))
    simp only [go_sem, seval, hc9]
    refine hZ _ (pp (⟨_, Nat.lt_succ_self _, (l6, IntKind.i64.wrap (v2 + 1)), ?_, h⟩))
    refine weak_roots ?_ ?_ <;> repeat' first | exact xn | exact rn | refine xc ?_ ?_ | refine rc ?_ ?_ ?_ | rfl | simp only [go_sem, seval, Bool.or_self, List.length_set, Int.natCast_zero, Int.cast_ofNat_Int, hc1d, hc9]
  rw [if_pos hc9] at h
  refine Wk_skip (pp ?_)
  unfold slices_insertionSortCmpFunc_Reminder_reminders_Due_1_J2 at h
  refine Wk_seq (Wk_block ?_)
  obtain ⟨x13, hb10, hx11, h⟩ := gx_some h
  obtain ⟨x14, hb12, hx13, h⟩ := gx_some h
  have hx15 := set_get (y := x13) hx13
  obtain ⟨x15, hb16, hx17, h⟩ := gx_some h
  have hx19 := set_get (y := x14) hx17
  refine Wk_regionH fun Y hY => ?_
  refine RX2_s rfl rfl fun Z hZ => ?_
  simp only [go_sem, seval, hc9]
  repeat with_reducible refine and_bar (by kernel_rfl) ?_
  refine hZ _ ?_
  refine RX2_s rfl rfl fun Z hZ => ?_
  simp only [go_sem, seval]
  refine hZ _ ?_
  refine RX2_s rfl rfl fun Z hZ => ?_
  simp only [go_sem, seval]
  refine hZ _ ?_
  refine RX2_s rfl rfl fun Z hZ => ?_
  simp only [go_sem, seval]
  refine hZ _ ?_
  refine RX2_s rfl rfl fun Z hZ => ?_
  simp only [go_sem, seval]
  refine hZ _ ?_
  refine RX2_s rfl rfl fun Z hZ => ?_
  simp only [go_sem, seval]
  refine hZ _ ?_
  refine RX2_s rfl rfl fun Z hZ => ?_
  simp only [go_sem, seval]
  refine hZ _ ?_
  refine RX2_s rfl rfl fun Z hZ => ?_
  simp only [go_sem, seval]
  refine hZ _ ?_
  refine RX2_s rfl rfl fun Z hZ => ?_
  simp only [go_sem, seval, hb10]
  refine hZ _ ?_
  refine RX2_s rfl rfl fun Z hZ => ?_
  simp only [go_sem, seval, hx11]
  refine hZ _ ?_
  refine RX2_s rfl rfl fun Z hZ => ?_
  simp only [go_sem, seval]
  refine hZ _ ?_
  refine RX2_s rfl rfl fun Z hZ => ?_
  simp only [go_sem, seval]
  refine hZ _ ?_
  refine RX2_s rfl rfl fun Z hZ => ?_
  simp only [go_sem, seval, hb12]
  refine hZ _ ?_
  refine RX2_s rfl rfl fun Z hZ => ?_
  simp only [go_sem, seval, hx13]
  refine hZ _ ?_
  refine RX2_s rfl rfl fun Z hZ => ?_
  simp only [go_sem, seval, hb12]
  refine hZ _ ?_
  refine RX2_w fun Z hZ => ?_
  simp only [go_sem, seval, hx13, map_modify2 (row := Reminder.row) (y := x13) (rx := [.val (.string x14.Name), .val (.int .i64 x14.Due), .val (.int .i64 x14.Period), .val (.int .i64 x14.Left)]) (ry := [.val (.string x13.Name), .val (.int .i64 x13.Due), .val (.int .i64 x13.Period), .val (.int .i64 x13.Left)]) hx13 rfl rfl]
  refine hZ _ ?_
  refine RX2_s rfl rfl fun Z hZ => ?_
  simp only [go_sem, seval, hb10]
  refine hZ _ ?_
  refine RX2_w fun Z hZ => ?_
  simp only [go_sem, seval, hx17, map_modify2 (row := Reminder.row) (y := x14) (rx := [.val (.string x15.Name), .val (.int .i64 x15.Due), .val (.int .i64 x15.Period), .val (.int .i64 x15.Left)]) (ry := [.val (.string x14.Name), .val (.int .i64 x14.Due), .val (.int .i64 x14.Period), .val (.int .i64 x14.Left)]) hx17 rfl rfl]
  refine hZ _ ?_
  refine RX2_end (by kernel_rfl) (hY _ (pp (Wk_regionZ fun Z hZ => ?_)))
  simp only [go_sem, seval]
  refine hZ _ (pp (⟨_, Nat.lt_succ_self _, (((l6.set ((v7).toNat) x13).set ((IntKind.i64.wrap (v7 - 1)).toNat) x14), IntKind.i64.wrap (v7 - 1)), ?_, h⟩))
  refine weak_roots ?_ ?_ <;> repeat' first | exact xn | exact rn | refine xc ?_ ?_ | refine rc ?_ ?_ ?_ | rfl | simp only [go_sem, seval, List.length_set]
def fl_slices_insertionSortCmpFunc_Reminder_reminders_Due_1 (N : Nat) : FnL := ⟨1, fun cs rest => match cs, rest with
  | [v0], [c1, c2, .clo 21 []] => (lst1 4 Reminder.dec v0).bind fun q0 => ((decI .i64) c1).bind fun q1 => ((decI .i64) c2).bind fun q2 => (slices_insertionSortCmpFunc_Reminder_reminders_Due_1 N q0 q1 q2).map fun r => (.tup [], [.sl true none 4 none (r.map Reminder.row)])
  | _, _ => none⟩
attribute [go_sem] fl_slices_insertionSortCmpFunc_Reminder_reminders_Due_1
theorem fl_slices_insertionSortCmpFunc_Reminder_reminders_Due_1_ok (N : Nat) : FLOk Try.prog 35 (fl_slices_insertionSortCmpFunc_Reminder_reminders_Due_1 N) := by
  intro cs rest r ls hlen h
  simp only [fl_slices_insertionSortCmpFunc_Reminder_reminders_Due_1] at h
  split at h
  · simp only [Option.bind_eq_some_iff, Option.map_eq_some_iff] at h
    obtain ⟨q0, h0, q1, h1, q2, h2, r', hr, he⟩ := h
    cases he
    exact ConL.told rfl rfl (lv_cons (lst1_ok Reminder.row_ok Reminder.dec_le h0) (lv_nil)) ((LeL.cons (decI_le h1) (LeL.cons (decI_le h2) (LeL.cons (Le.clo (LeL.nil)) (LeL.nil))))) (w_slices_insertionSortCmpFunc_Reminder_reminders_Due_1 N q0 q1 q2 r' hr)
  · cases h


noncomputable def L_slices_stableCmpFunc_Reminder_reminders_Due_1 (N d f : Nat) : Option FnL := llist [(18, 35, fl_slices_insertionSortCmpFunc_Reminder_reminders_Due_1 N), (27, 35, fl_slices_insertionSortCmpFunc_Reminder_reminders_Due_1 N)] d f
attribute [go_sem] L_slices_stableCmpFunc_Reminder_reminders_Due_1
theorem len_slices_stableCmpFunc_Reminder_reminders_Due_1 (N : Nat) (a0 : (List Reminder)) (a1 : Int) (r : (List Reminder)) (h : slices_stableCmpFunc_Reminder_reminders_Due_1 N a0 a1 = some r) : (r).length = a0.length := by
  unfold slices_stableCmpFunc_Reminder_reminders_Due_1 at h; exact (lenM_some h).2
theorem w_slices_stableCmpFunc_Reminder_reminders_Due_1 (N : Nat) (a0 : (List Reminder)) (a1 : Int) (r : (List Reminder)) (h : slices_stableCmpFunc_Reminder_reminders_Due_1 N a0 a1 = some r) : ConL Try.prog 31 1 [.sl true none 4 none (a0.map Reminder.row), .val (.int .i64 a1), .clo 21 []] (.tup []) [.sl true none 4 none (r.map Reminder.row)] := by
  unfold slices_stableCmpFunc_Reminder_reminders_Due_1 at h
  obtain ⟨h, hlen⟩ := lenM_some h
  refine fun_lent5 (G := (glist [])) (L := (L_slices_stableCmpFunc_Reminder_reminders_Due_1 N)) Try.func31 rfl (by decide) (by kernel_rfl) 1 (by kernel_rfl) gn (lc 18 (fl_slices_insertionSortCmpFunc_Reminder_reminders_Due_1_ok N) (lc 27 (fl_slices_insertionSortCmpFunc_Reminder_reminders_Due_1_ok N) ln)) [] mix (Nat.le_of_ble_eq_true rfl) (Nat.le_of_ble_eq_true rfl) rfl (by simp [lentSh, hlen]) ?_
  simp only [Try.f31]
  refine Wk_seq (Wk_regionZ fun Z hZ => ?_)
  simp only [go_sem, seval]
  refine hZ _ (pp (Wk_seq (Wk_regionZ fun Z hZ => ?_)))
  simp only [go_sem, seval]
  refine hZ _ (pp (Wk_seq (Wk_block (Wk_fuel (fun (b : List Reminder × Int × Int) => ⟨tab 63 (updT (updT (updT (updT (updT (updT deadT 0 (.pal 0 [] 0 b.1.length none)) 1 (.val (.int .i64 a1))) 2 (.clo 21 [])) 6 (.val (.int .i64 20))) 7 (.val (.int .i64 b.2.1))) 8 (.val (.int .i64 b.2.2))), (upd RZ 0 (.sl true none 4 none (b.1.map Reminder.row)))⟩) (a0, 0, 20) h ?_ ?_))))
  · refine weak_roots ?_ ?_ <;> repeat' first | exact xn | exact rn | refine xc ?_ ?_ | refine rc ?_ ?_ ?_ | rfl | simp only [go_sem, seval, Bool.or_self, List.length_set, Int.natCast_zero, Int.cast_ofNat_Int]
  rintro n ⟨l2, v3, v4⟩ h -
  cases n with
  | zero => simp [slices_stableCmpFunc_Reminder_reminders_Due_1_L1] at h
  | succ n =>
  simp only [slices_stableCmpFunc_Reminder_reminders_Due_1_L1] at h
  refine Wk_seq (Wk_seq (Wk_regionZ fun Z hZ => ?_))
  simp only [go_sem, seval]
  refine hZ _ (pp (Wk_cond_dec rfl (fun hc1 => ?_) (fun hc1 => ?_)))
  · have hc1d := decide_eq_true hc1
    rw [if_pos hc1] at h
    refine Wk_skip (pp (Wk_block (Wk_seq ?_)))
    obtain ⟨r9, hr2, h⟩ := Option.bind_eq_some_iff.1 h
    refine Wk_regionZ fun Z hZ => ?_
    simp only [go_sem, seval, hc1d, hr2, len_slices_insertionSortCmpFunc_Reminder_reminders_Due_1 N l2 v3 v4 r9 hr2]
    refine hZ _ (pp (Wk_seq (Wk_regionZ fun Z hZ => ?_)))
    simp only [go_sem, seval]
    refine hZ _ (pp (Wk_regionZ fun Z hZ => ?_))
    simp only [go_sem, seval]
    refine hZ _ (pp (⟨_, Nat.lt_succ_self _, (r9, v4, IntKind.i64.wrap (v4 + 20)), ?_, h⟩))
    refine weak_roots ?_ ?_ <;> repeat' first | exact xn | exact rn | refine xc ?_ ?_ | refine rc ?_ ?_ ?_ | rfl | simp only [go_sem, seval, len_slices_insertionSortCmpFunc_Reminder_reminders_Due_1 N l2 v3 v4 r9 hr2]
  have hc1d := decide_eq_false hc1
  rw [if_neg hc1] at h
  refine Wk_exit (pp ?_)
  unfold slices_stableCmpFunc_Reminder_reminders_Due_1_J2 at h
  refine Wk_seq ?_
  obtain ⟨r10, hr3, h⟩ := Option.bind_eq_some_iff.1 h
  refine Wk_regionZ fun Z hZ => ?_
  simp only [go_sem, seval, hc1d, hr3, len_slices_insertionSortCmpFunc_Reminder_reminders_Due_1 N l2 v3 a1 r10 hr3]
  refine hZ _ (pp (Wk_block (Wk_fuel (fun (b : Int) => ⟨tab 63 (updT (updT (updT (updT deadT 0 (.pal 0 [] 0 r10.length none)) 1 (.val (.int .i64 a1))) 2 (.clo 21 [])) 6 (.val (.int .i64 b))), (upd RZ 0 (.sl true none 4 none (r10.map Reminder.row)))⟩) 20 h ?_ ?_)))
  · refine weak_roots ?_ ?_ <;> repeat' first | exact xn | exact rn | refine xc ?_ ?_ | refine rc ?_ ?_ ?_ | rfl | simp only [go_sem, seval, len_slices_insertionSortCmpFunc_Reminder_reminders_Due_1 N l2 v3 a1 r10 hr3]
  rintro n v11 h -
  cases n with
  | zero => simp [slices_stableCmpFunc_Reminder_reminders_Due_1_L2] at h
  | succ n =>
  simp only [slices_stableCmpFunc_Reminder_reminders_Due_1_L2] at h
  refine Wk_seq (Wk_seq (Wk_regionZ fun Z hZ => ?_))
  simp only [go_sem, seval, len_slices_insertionSortCmpFunc_Reminder_reminders_Due_1 N l2 v3 a1 r10 hr3]
  refine hZ _ (pp (sw (Wk_cond_dec rfl) (fun hc4 => ?_) (fun hc4 => ?_)))
  · have hc4d := decide_eq_false hc4
    rw [if_neg hc4] at h
    refine Wk_exit (pp ?_)
    obtain rfl := Option.some.inj h
    refine FinL_mk (.inr rfl) (Weak.refl _) (by simp only [go_sem, seval, hc4d]; rfl) (by simp only [go_sem, seval]; rfl) (by (try simp only [go_sem, seval, Bool.or_self, List.length_set, Int.natCast_zero, Int.cast_ofNat_Int, hc1d, hr3, len_slices_insertionSortCmpFunc_Reminder_reminders_Due_1 N l2 v3 a1 r10 hr3, List.take_of_length_le (Nat.le_of_eq (len_slices_insertionSortCmpFunc_Reminder_reminders_Due_1 N l2 v3 a1 r10 hr3)), hc4d]); first | exact Le.refl _ | exact LeI.h) ?_
    exact el_cons (by simp only [go_sem, seval, len_slices_insertionSortCmpFunc_Reminder_reminders_Due_1 N l2 v3 a1 r10 hr3, hc4d] <;> rfl) (by simp only [go_sem, seval] <;> rfl) (el_nil)
  have hc4d := decide_eq_true hc4
  rw [if_pos hc4] at h
  refine Wk_skip (pp (Wk_block (Wk_seq (Wk_regionZ fun Z hZ => ?_))))
  simp only [go_sem, seval, hc4d]
  refine hZ _ (pp (Wk_seq (Wk_block (Wk_fuel (fun (b : Unit) => ⟨tab 63 (updT (updT (updT (updT (updT (updT deadT 0 (.pal 0 [] 0 r10.length none)) 1 (.val (.int .i64 a1))) 2 (.clo 21 [])) 6 (.val (.int .i64 v11))) 7 (.val (.int .i64 0))) 8 (.val (.int .i64 (IntKind.i64.wrap (2 * v11))))), (upd RZ 0 (.sl true none 4 none (r10.map Reminder.row)))⟩) () h ?_ ?_))))
  · refine weak_roots ?_ ?_ <;> repeat' first | exact xn | exact rn | refine xc ?_ ?_ | refine rc ?_ ?_ ?_ | rfl | simp only [go_sem, seval, len_slices_insertionSortCmpFunc_Reminder_reminders_Due_1 N l2 v3 a1 r10 hr3]
  rintro n ⟨⟩ h -
  cases n with
  | zero => simp [slices_stableCmpFunc_Reminder_reminders_Due_1_L3] at h
  | succ n =>
  simp only [slices_stableCmpFunc_Reminder_reminders_Due_1_L3] at h
  refine Wk_seq (Wk_seq (Wk_regionZ fun Z hZ => ?_))
  simp only [go_sem, seval, len_slices_insertionSortCmpFunc_Reminder_reminders_Due_1 N l2 v3 a1 r10 hr3]
  refine hZ _ (pp (Wk_cond_dec rfl (fun hc5 => ?_) (fun hc5 => ?_)))
  · have hc5d := decide_eq_true hc5
    rw [if_pos hc5] at h
    refine Wk_skip (pp (Wk_block (Wk_seq ?_)))
    cases h
  have hc5d := decide_eq_false hc5
  rw [if_neg hc5] at h
  refine Wk_exit (pp ?_)
  unfold slices_stableCmpFunc_Reminder_reminders_Due_1_J1 at h
  refine Wk_seq (Wk_seq (Wk_regionZ fun Z hZ => ?_))
  simp only [go_sem, seval, hc5d]
  refine hZ _ (pp (Wk_seq (Wk_regionZ fun Z hZ => ?_)))
  simp only [go_sem, seval]
  refine hZ _ (pp (Wk_cond_dec rfl (fun hc6 => ?_) (fun hc6 => ?_)))
  · have hc6d := decide_eq_true hc6
    rw [if_pos hc6] at h
    cases h
  have hc6d := decide_eq_false hc6
  rw [if_neg hc6] at h
  refine Wk_skip (pp (Wk_regionZ fun Z hZ => ?_))
  simp only [go_sem, seval, hc6d]
  refine hZ _ (pp (⟨_, Nat.lt_succ_self _, (IntKind.i64.wrap (v11 * 2)), ?_, h⟩))
  refine weak_roots ?_ ?_ <;> repeat' first | exact xn | exact rn | refine xc ?_ ?_ | refine rc ?_ ?_ ?_ | rfl | simp only [go_sem, seval, len_slices_insertionSortCmpFunc_Reminder_reminders_Due_1 N l2 v3 a1 r10 hr3]
def fl_slices_stableCmpFunc_Reminder_reminders_Due_1 (N : Nat) : FnL := ⟨1, fun cs rest => match cs, rest with
  | [v0], [c1, .clo 21 []] => (lst1 4 Reminder.dec v0).bind fun q0 => ((decI .i64) c1).bind fun q1 => (slices_stableCmpFunc_Reminder_reminders_Due_1 N q0 q1).map fun r => (.tup [], [.sl true none 4 none (r.map Reminder.row)])
  | _, _ => none⟩
attribute [go_sem] fl_slices_stableCmpFunc_Reminder_reminders_Due_1
theorem fl_slices_stableCmpFunc_Reminder_reminders_Due_1_ok (N : Nat) : FLOk Try.prog 31 (fl_slices_stableCmpFunc_Reminder_reminders_Due_1 N) := by
  intro cs rest r ls hlen h
  simp only [fl_slices_stableCmpFunc_Reminder_reminders_Due_1] at h
  split at h
  · simp only [Option.bind_eq_some_iff, Option.map_eq_some_iff] at h
    obtain ⟨q0, h0, q1, h1, r', hr, he⟩ := h
    cases he
    exact ConL.told rfl rfl (lv_cons (lst1_ok Reminder.row_ok Reminder.dec_le h0) (lv_nil)) ((LeL.cons (decI_le h1) (LeL.cons (Le.clo (LeL.nil)) (LeL.nil)))) (w_slices_stableCmpFunc_Reminder_reminders_Due_1 N q0 q1 r' hr)
  · cases h


noncomputable def L_slices_SortStableFunc_Reminder_reminders_Due_1 (N d f : Nat) : Option FnL := llist [(8, 31, fl_slices_stableCmpFunc_Reminder_reminders_Due_1 N)] d f
attribute [go_sem] L_slices_SortStableFunc_Reminder_reminders_Due_1
theorem len_slices_SortStableFunc_Reminder_reminders_Due_1 (N : Nat) (a0 : (List Reminder)) (r : (List Reminder)) (h : slices_SortStableFunc_Reminder_reminders_Due_1 N a0 = some r) : (r).length = a0.length := by
  unfold slices_SortStableFunc_Reminder_reminders_Due_1 at h; exact (lenM_some h).2
theorem w_slices_SortStableFunc_Reminder_reminders_Due_1 (N : Nat) (a0 : (List Reminder)) (r : (List Reminder)) (h : slices_SortStableFunc_Reminder_reminders_Due_1 N a0 = some r) : ConL Try.prog 20 1 [.sl true none 4 none (a0.map Reminder.row), .clo 21 []] (.tup []) [.sl true none 4 none (r.map Reminder.row)] := by
  unfold slices_SortStableFunc_Reminder_reminders_Due_1 at h
  obtain ⟨h, hlen⟩ := lenM_some h
  refine fun_lent5 (G := (glist [])) (L := (L_slices_SortStableFunc_Reminder_reminders_Due_1 N)) Try.func20 rfl (by decide) (by kernel_rfl) 1 (by kernel_rfl) gn (lc 8 (fl_slices_stableCmpFunc_Reminder_reminders_Due_1_ok N) ln) [] mix (Nat.le_of_ble_eq_true rfl) (Nat.le_of_ble_eq_true rfl) rfl (by simp [lentSh, hlen]) ?_
  simp only [Try.f20]
  obtain ⟨r1, hr1, h⟩ := Option.bind_eq_some_iff.1 h
  refine Wk_regionZ fun Z hZ => ?_
  simp only [go_sem, seval, hr1, len_slices_stableCmpFunc_Reminder_reminders_Due_1 N a0 ((a0.length : Nat) : Int) r1 hr1]
  refine hZ _ (pp ?_)
  obtain rfl := Option.some.inj h
  refine FinL_mk (.inr rfl) (Weak.refl _) (by simp only [go_sem, seval]; rfl) (by simp only [go_sem, seval]; rfl) (by (try simp only [go_sem, seval, Bool.or_self, List.length_set, Int.natCast_zero, Int.cast_ofNat_Int, hr1, len_slices_stableCmpFunc_Reminder_reminders_Due_1 N a0 ((a0.length : Nat) : Int) r1 hr1, List.take_of_length_le (Nat.le_of_eq (len_slices_stableCmpFunc_Reminder_reminders_Due_1 N a0 ((a0.length : Nat) : Int) r1 hr1))]); first | exact Le.refl _ | exact LeI.h) ?_
  exact el_cons (by simp only [go_sem, seval, len_slices_stableCmpFunc_Reminder_reminders_Due_1 N a0 ((a0.length : Nat) : Int) r1 hr1] <;> rfl) (by simp only [go_sem, seval] <;> rfl) (el_nil)
def fl_slices_SortStableFunc_Reminder_reminders_Due_1 (N : Nat) : FnL := ⟨1, fun cs rest => match cs, rest with
  | [v0], [.clo 21 []] => (lst1 4 Reminder.dec v0).bind fun q0 =>  (slices_SortStableFunc_Reminder_reminders_Due_1 N q0).map fun r => (.tup [], [.sl true none 4 none (r.map Reminder.row)])
  | _, _ => none⟩
attribute [go_sem] fl_slices_SortStableFunc_Reminder_reminders_Due_1
theorem fl_slices_SortStableFunc_Reminder_reminders_Due_1_ok (N : Nat) : FLOk Try.prog 20 (fl_slices_SortStableFunc_Reminder_reminders_Due_1 N) := by
  intro cs rest r ls hlen h
  simp only [fl_slices_SortStableFunc_Reminder_reminders_Due_1] at h
  split at h
  · simp only [Option.bind_eq_some_iff, Option.map_eq_some_iff] at h
    obtain ⟨q0, h0, r', hr, he⟩ := h
    cases he
    exact ConL.told rfl rfl (lv_cons (lst1_ok Reminder.row_ok Reminder.dec_le h0) (lv_nil)) ((LeL.cons (Le.clo (LeL.nil)) (LeL.nil))) (w_slices_SortStableFunc_Reminder_reminders_Due_1 N q0 r' hr)
  · cases h


noncomputable def G_reminders_Due (N d f : Nat) : Option FnS := glist [(9, 13, fs_reminders_Valid N)] d f
attribute [go_sem] G_reminders_Due
noncomputable def L_reminders_Due (N d f : Nat) : Option FnL := llist [(27, 20, fl_slices_SortStableFunc_Reminder_reminders_Due_1 N)] d f
attribute [go_sem] L_reminders_Due
theorem w_reminders_Due (N : Nat) (a0 : (List Reminder)) (a1 : Int) (r : (List Reminder)) (h : reminders_Due N a0 a1 = some r) : Con Try.prog 10 [] true [.sl false none 4 none (a0.map Reminder.row), .val (.int .i64 a1)] (.sl true none 4 none (r.map Reminder.row)) := by
  refine fun_ok5 (G := (G_reminders_Due N)) (L := (L_reminders_Due N)) Try.func10 rfl (by decide) (by kernel_rfl) (gc 9 (fs_reminders_Valid_ok N) gn) (lc 27 (fl_slices_SortStableFunc_Reminder_reminders_Due_1_ok N) ln) [] mix (Nat.le_of_ble_eq_true rfl) ?_
  simp only [Try.f10]
  unfold reminders_Due at h
  refine Wk_seq (Wk_regionZ fun Z hZ => ?_)
  simp only [go_sem, seval]
  refine hZ _ (pp (Wk_seq (Wk_seq ?_)))
  obtain ⟨r1, hr1, h⟩ := Option.bind_eq_some_iff.1 h
  refine Wk_regionZ fun Z hZ => ?_
  simp only [go_sem, seval, hr1]
  refine hZ _ (pp (Wk_cond_nbool rfl (fun hc2 => ?_) (fun hc2 => ?_)))
  · rw [if_neg (ne_true_of_eq_false hc2)] at h
    refine Wk_seq (Wk_regionZ fun Z hZ => ?_)
    simp only [go_sem, seval, hc2]
    refine hZ _ (pp (Wk_ret (pp ?_)))
    obtain rfl := Option.some.inj h
    simp only [go_sem, seval]
    exact ⟨_, rfl, RokI.h, PureI.h⟩
  rw [if_pos hc2] at h
  refine Wk_skip (pp (Wk_seq (Wk_regionZ fun Z hZ => ?_)))
  simp only [go_sem, seval, hc2]
  refine hZ _ (pp (Wk_seq (Wk_seq (Wk_regionZ fun Z hZ => ?_))))
  simp only [go_sem, seval]
  refine hZ _ (pp (Wk_block (Wk_real fun hreal4 => ?_)))
  have hl3 := hreal4.lenT 0 (by decide) (by simp only [go_sem, seval]; rfl)
  rw [List.length_map] at hl3
  refine Wk_range (fun (v5 : Nat) (b : List Reminder) => ⟨tab 29 (updT (updT (updT (updT (updT deadT 1 (.val (.int .i64 a1))) 5 (.pal 24 [] 0 b.length none)) 11 (.sl false none 4 none (a0.map Reminder.row))) 12 (.val (.int .i64 ((a0.length : Nat) : Int)))) 13 (.val (.int .i64 ((v5 : Nat) : Int)))), (upd RZ 24 (.sl true none 4 none (b.map Reminder.row)))⟩) [] h ?_ ?_
  · refine Weak.trans (weak_adopt 5 24 4 (by simp only [go_sem, seval]) (by simp only [go_sem, seval])) ?_
    refine weak_roots ?_ ?_ <;> repeat' first | exact xn | exact rn | refine xc ?_ ?_ | refine rc ?_ ?_ ?_ | rfl | simp only [go_sem, seval, Bool.or_self, List.length_set, Int.natCast_zero, Int.cast_ofNat_Int, hr1, hc2]
  rintro v5 l4 hi5 h -
  rcases (drop_cases a0 v5 hi5).symm with ⟨hi5', _, hd8⟩ | ⟨x8, hi5', hx6, hd8⟩
  · rw [hd8] at h
    simp only [reminders_Due_L1] at h
    refine Wk_seq (Wk_regionZ fun Z hZ => ?_)
    simp only [go_sem, seval, hi5']
    refine hZ _ (pp (Wk_seq ?_))
    try simp only [Int.ofNat_lt, hi5', if_true, if_false] at h
    refine Wk_cond_f rfl (Wk_exit (pp ?_))
    unfold reminders_Due_J1 at h
    refine Wk_seq ?_
    obtain ⟨r11, hr11, h⟩ := Option.bind_eq_some_iff.1 h
    refine Wk_regionZ fun Z hZ => ?_
    simp only [go_sem, seval, hr11, len_slices_SortStableFunc_Reminder_reminders_Due_1 N l4 r11 hr11]
    refine hZ _ (pp (Wk_seq (Wk_regionZ fun Z hZ => ?_)))
    simp only [go_sem, seval]
    refine hZ _ (pp (Wk_ret (pp ?_)))
    obtain rfl := Option.some.inj h
    simp only [go_sem, seval, List.take_of_length_le (Nat.le_of_eq (len_slices_SortStableFunc_Reminder_reminders_Due_1 N l4 r11 hr11))]
    exact ⟨_, rfl, RokI.h, PureI.h⟩
  rw [hd8] at h
  simp only [reminders_Due_L1] at h
  have hw7 := wrap_succ hi5' hl3
  refine Wk_seq (Wk_regionZ fun Z hZ => ?_)
  simp only [go_sem, seval, hi5']
  refine hZ _ (pp (Wk_seq ?_))
  try simp only [Int.ofNat_lt, hi5', if_true, if_false] at h
  refine Wk_cond_t rfl (Wk_skip (pp (Wk_seq (Wk_block (Wk_seq ?_)))))
  try rw [gx_nat hx6] at h
  refine Wk_regionZ fun Z hZ => ?_
  simp only [go_sem, seval, hx6, hi5']
  refine hZ _ (pp (Wk_seq (Wk_regionZ fun Z hZ => ?_)))
  simp only [go_sem, seval]
  refine hZ _ (pp (sw (Wk_cond_dec rfl) (fun hc9 => ?_) (fun hc9 => ?_)))
  · have hc9d := decide_eq_false hc9
    rw [if_neg hc9] at h
    refine Wk_skip (pp (Wk_regionZ fun Z hZ => ?_))
    simp only [go_sem, seval, hw7, hc9d]
    refine hZ _ (pp ?_)
    first | refine ⟨l4, ?_, h⟩ | refine ⟨hi5', l4, ?_, h⟩
    refine weak_roots ?_ ?_ <;> repeat' first | exact xn | exact rn | refine xc ?_ ?_ | refine rc ?_ ?_ ?_ | rfl | simp only [go_sem, seval, Bool.or_self, List.length_set, Int.natCast_zero, Int.cast_ofNat_Int, hr1, hc2, hx6, hi5', hw7, hc9d]
  have hc9d := decide_eq_true hc9
  rw [if_pos hc9] at h
  obtain ⟨ha10, h⟩ := apx_some h
  simp only [List.length_cons, List.length_nil, Nat.zero_add, Nat.reduceAdd] at ha10
  refine Wk_regionZ fun Z hZ => ?_
  simp only [go_sem, seval, hc9d, ha10]
  refine hZ _ (pp (Wk_regionZ fun Z hZ => ?_))
  simp only [go_sem, seval, hw7]
  refine hZ _ (pp ?_)
  first | refine ⟨(l4 ++ [x8]), ?_, h⟩ | refine ⟨hi5', (l4 ++ [x8]), ?_, h⟩
  refine weak_roots ?_ ?_ <;> repeat' first | exact xn | exact rn | refine xc ?_ ?_ | refine rc ?_ ?_ ?_ | rfl | simp only [go_sem, seval]
def fs_reminders_Due (N : Nat) : FnS := ⟨[], true, fn2 (decL 4 Reminder.dec) (decI .i64) fun q0 q1 => (reminders_Due N q0 q1).map fun r => .sl false none 4 none (r.map Reminder.row), false⟩
attribute [go_sem] fs_reminders_Due
theorem fs_reminders_Due_ok (N : Nat) : FSOk Try.prog 10 (fs_reminders_Due N) := ok2 (fun q0 q1 r h => by
  obtain ⟨r', hr, rfl⟩ := Option.map_eq_some_iff.1 h
  exact (w_reminders_Due N q0 q1 r' hr).res (by (try simp only [go_sem]); exact RokI.h)) (fun h => decL_le Reminder.dec_le h) (decI_le)

def fso_reminders_Due (N : Nat) : FnS := ⟨[], true, fn2 (decL 4 Reminder.dec) (decI .i64) fun q0 q1 => (reminders_Due N q0 q1).map fun r => .sl true none 4 none (r.map Reminder.row), false⟩
attribute [go_sem] fso_reminders_Due
theorem fso_reminders_Due_ok (N : Nat) : FSOk Try.prog 10 (fso_reminders_Due N) := ok2 (fun q0 q1 r h => by
  obtain ⟨r', hr, rfl⟩ := Option.map_eq_some_iff.1 h
  exact w_reminders_Due N q0 q1 r' hr) (fun h => decL_le Reminder.dec_le h) (decI_le)


noncomputable def G_reminders_Next (N d f : Nat) : Option FnS := glist [(7, 13, fs_reminders_Valid N)] d f
attribute [go_sem] G_reminders_Next
theorem w_reminders_Next (N : Nat) (a0 : (List Reminder)) (r : Int × Bool) (h : reminders_Next N a0 = some r) : Con Try.prog 14 [] true [.sl false none 4 none (a0.map Reminder.row)] (.tup [.val (.int .i64 r.1), .val (.bool r.2)]) := by
  refine fun_ok4 (G := (G_reminders_Next N)) Try.func14 rfl (by decide) (by kernel_rfl) (gc 7 (fs_reminders_Valid_ok N) gn) [] mix (Nat.le_of_ble_eq_true rfl) ?_
  simp only [Try.f14]
  unfold reminders_Next at h
  refine Wk_seq (Wk_regionZ fun Z hZ => ?_)
  simp only [go_sem, seval]
  refine hZ _ (pp (Wk_seq ?_))
  apply Wk_join1 (fun (c5 : Bool) => ⟨tab 31 (updT (updT deadT 0 (.sl false none 4 none (a0.map Reminder.row))) 13 (.val (.bool c5))), RZ⟩)
  · intro hJ1
    obtain ⟨r6, hr2, h⟩ := Option.bind_eq_some_iff.1 h
    refine Wk_regionZ fun Z hZ => ?_
    simp only [go_sem, seval, hr2]
    refine RX_guard_nbool rfl (fun hc3 => ?_) (fun hc3 => ?_)
    · rw [if_neg (ne_true_of_eq_false hc3)] at h
      simp only [go_sem, seval, hc3]
      refine hZ _ (pp (hJ1 _ true ?_ h))
      refine weak_roots ?_ ?_ <;> repeat' first | exact xn | exact rn | refine xc ?_ ?_ | refine rc ?_ ?_ ?_ | rfl
    rw [if_pos hc3] at h
    simp only [go_sem, seval, hc3]
    refine hZ _ (pp (hJ1 _ (decide (((a0.length : Nat) : Int) = 0)) ?_ h))
    refine weak_roots ?_ ?_ <;> repeat' first | exact xn | exact rn | refine xc ?_ ?_ | refine rc ?_ ?_ ?_ | rfl
  intro c5 h
  unfold reminders_Next_J1 at h
  refine Wk_cond_bool rfl (fun hc4 => ?_) (fun hc4 => ?_)
  · rw [if_pos hc4] at h
    refine Wk_seq (Wk_regionZ fun Z hZ => ?_)
    simp only [go_sem, seval, hc4]
    refine hZ _ (pp (Wk_ret (pp ?_)))
    cases h
    simp only [go_sem, seval]
    exact ⟨_, rfl, RokI.h, PureI.h⟩
  rw [if_neg (ne_true_of_eq_false hc4)] at h
  refine Wk_skip (pp ?_)
  unfold reminders_Next_J2 at h
  refine Wk_seq ?_
  obtain ⟨x7, hb5, hx6, h⟩ := gx_some h
  try simp only [Int.toNat_zero] at hx6
  try simp only [Int.ofNat_lt, Int.natCast_nonneg, true_and] at hb5
  refine Wk_regionZ fun Z hZ => ?_
  simp only [go_sem, seval, hc4, hb5, hx6]
  refine hZ _ (pp (Wk_seq (Wk_seq ?_)))
  obtain ⟨hs7, h⟩ := slx_some h
  try simp only [Int.toNat_natCast, Int.reduceToNat] at hs7 h
  refine Wk_regionZ fun Z hZ => ?_
  simp only [go_sem, seval, hs7, Nat.zero_le]
  refine hZ _ (pp (Wk_block (Wk_real fun hreal9 => ?_)))
  have hl8 := hreal9.lenT 19 (by decide) (by simp only [go_sem, seval]; rfl)
  rw [List.length_map] at hl8
  refine Wk_range (fun (v9 : Nat) (b : Int) => ⟨tab 31 (updT (updT (updT (updT deadT 2 (.val (.int .i64 b))) 19 (.sl false none 4 none (((a0.drop 1).take (a0.length - 1)).map Reminder.row))) 20 (.val (.int .i64 ((((a0.drop 1).take (a0.length - 1)).length : Nat) : Int)))) 21 (.val (.int .i64 ((v9 : Nat) : Int)))), RZ⟩) x7.Due h ?_ ?_
  · refine weak_roots ?_ ?_ <;> repeat' first | exact xn | exact rn | refine xc ?_ ?_ | refine rc ?_ ?_ ?_ | rfl
  rintro v9 v8 hi10 h -
  rcases (drop_cases ((a0.drop 1).take (a0.length - 1)) v9 hi10).symm with ⟨hi10', _, hd13⟩ | ⟨x12, hi10', hx11, hd13⟩
  · rw [hd13] at h
    simp only [reminders_Next_L1] at h
    refine Wk_seq (Wk_regionZ fun Z hZ => ?_)
    simp only [go_sem, seval, hi10']
    refine hZ _ (pp (Wk_seq ?_))
    try simp only [Int.ofNat_lt, hi10', if_true, if_false] at h
    refine Wk_cond_f rfl (Wk_exit (pp (Wk_seq (Wk_regionZ fun Z hZ => ?_))))
    simp only [go_sem, seval]
    refine hZ _ (pp (Wk_ret (pp ?_)))
    cases h
    simp only [go_sem, seval]
    exact ⟨_, rfl, RokI.h, PureI.h⟩
  rw [hd13] at h
  simp only [reminders_Next_L1] at h
  have hw12 := wrap_succ hi10' hl8
  refine Wk_seq (Wk_regionZ fun Z hZ => ?_)
  simp only [go_sem, seval, hi10']
  refine hZ _ (pp (Wk_seq ?_))
  try simp only [Int.ofNat_lt, hi10', if_true, if_false] at h
  refine Wk_cond_t rfl (Wk_skip (pp (Wk_seq (Wk_block (Wk_seq ?_)))))
  try rw [gx_nat hx11] at h
  refine Wk_regionZ fun Z hZ => ?_
  simp only [go_sem, seval, hx11, hi10']
  refine hZ _ (pp (Wk_regionZ fun Z hZ => ?_))
  simp only [go_sem, seval]
  refine hZ _ (pp (Wk_regionZ fun Z hZ => ?_))
  simp only [go_sem, seval, hw12]
  refine hZ _ (pp ?_)
  first | refine ⟨(if x12.Due < v8 then x12.Due else v8), ?_, h⟩ | refine ⟨hi10', (if x12.Due < v8 then x12.Due else v8), ?_, h⟩
  refine weak_roots ?_ ?_ <;> repeat' first | exact xn | exact rn | refine xc ?_ ?_ | refine rc ?_ ?_ ?_ | rfl
def fs_reminders_Next (N : Nat) : FnS := ⟨[], true, fn1 (decL 4 Reminder.dec) fun q0 => (reminders_Next N q0).map fun r => .tup [.val (.int .i64 r.1), .val (.bool r.2)], false⟩
attribute [go_sem] fs_reminders_Next
theorem fs_reminders_Next_ok (N : Nat) : FSOk Try.prog 14 (fs_reminders_Next N) := ok1 (fun q0 r h => by
  obtain ⟨r', hr, rfl⟩ := Option.map_eq_some_iff.1 h
  exact w_reminders_Next N q0 r' hr) (fun h => decL_le Reminder.dec_le h)


noncomputable def G_law29_RemindersSorted (N d f : Nat) : Option FnS := glist [(15, 7, fs_law29_awake N), (39, 9, fs_law29_name N), (54, 8, fs_reminders_Set N), (63, 10, fs_reminders_Due N), (142, 14, fs_reminders_Next N)] d f
attribute [go_sem] G_law29_RemindersSorted
theorem w_law29_RemindersSorted (N : Nat) (a0 : (List actorgridlaw29_Act)) (a1 : Int) (r : Bool) (h : law29_RemindersSorted N a0 a1 = some r) : Con Try.prog 6 [] true [.sl false none 5 none (a0.map actorgridlaw29_Act.row), .val (.int .u16 a1)] (.val (.bool r)) := by
  refine fun_ok4 (G := (G_law29_RemindersSorted N)) Try.func6 rfl (by decide) (by kernel_rfl) (gc 15 (fs_law29_awake_ok N) (gc 39 (fs_law29_name_ok N) (gc 54 (fs_reminders_Set_ok N) (gc 63 (fs_reminders_Due_ok N) (gc 142 (fs_reminders_Next_ok N) gn))))) [] mix (Nat.le_of_ble_eq_true rfl) ?_
  simp only [Try.f6]
  unfold law29_RemindersSorted at h
  refine Wk_seq (Wk_regionZ fun Z hZ => ?_)
  simp (config := { maxSteps := 4000000 }) only [go_sem, seval]
  refine hZ _ (pp (Wk_seq (Wk_seq ?_)))
  obtain ⟨r1, hr1, h⟩ := Option.bind_eq_some_iff.1 h
  refine Wk_regionZ fun Z hZ => ?_
  simp (config := { maxSteps := 4000000 }) only [go_sem, seval, hr1]
  refine hZ _ (pp (Wk_cond_nbool rfl (fun hc2 => ?_) (fun hc2 => ?_)))
  · first | rw [if_neg (ne_true_of_eq_false hc2)] at h | simp only [hc2, Bool.or_false, Bool.or_true, Bool.false_or, Bool.true_or, Bool.and_true, Bool.true_and, Bool.and_false, Bool.false_and, Bool.not_true, Bool.not_false, Bool.false_eq_true, if_true, if_false] at h
    refine Wk_seq (Wk_regionZ fun Z hZ => ?_)
    simp (config := { maxSteps := 4000000 }) only [go_sem, seval, hc2]
    refine hZ _ (pp (Wk_ret (pp ?_)))
    cases h
    simp (config := { maxSteps := 4000000 }) only [go_sem, seval]
    exact ⟨_, rfl, (by exact ROk.refl _), (by repeat' (first | exact PureC.val _ | refine PureC.tup ?_ | refine PureC.agg ?_ | exact pure_nil | refine pure_cons ?_ ?_))⟩
  first | rw [if_pos hc2] at h | simp only [hc2, Bool.or_false, Bool.or_true, Bool.false_or, Bool.true_or, Bool.and_true, Bool.true_and, Bool.and_false, Bool.false_and, Bool.not_true, Bool.not_false, Bool.false_eq_true, if_true, if_false] at h
  refine Wk_skip (pp (Wk_seq (Wk_seq (Wk_regionZ fun Z hZ => ?_))))
  simp (config := { maxSteps := 4000000 }) only [go_sem, seval, hc2]
  refine hZ _ (pp (Wk_cond_dec rfl (fun hc3 => ?_) (fun hc3 => ?_)))
  · have hc3d := decide_eq_true hc3
    first | rw [if_pos hc3] at h | rw [if_pos hc3d] at h | simp only [hc3d, Bool.not_true, Bool.not_false, Bool.false_eq_true, if_true, if_false] at h
    refine Wk_seq (Wk_regionZ fun Z hZ => ?_)
    simp (config := { maxSteps := 4000000 }) only [go_sem, seval, hc3d]
    refine hZ _ (pp (Wk_ret (pp ?_)))
    cases h
    simp (config := { maxSteps := 4000000 }) only [go_sem, seval]
    exact ⟨_, rfl, (by exact ROk.refl _), (by repeat' (first | exact PureC.val _ | refine PureC.tup ?_ | refine PureC.agg ?_ | exact pure_nil | refine pure_cons ?_ ?_))⟩
  have hc3d := decide_eq_false hc3
  first | rw [if_neg hc3] at h | rw [if_neg (ne_true_of_eq_false hc3d)] at h | simp only [hc3d, Bool.not_true, Bool.not_false, Bool.false_eq_true, if_true, if_false] at h
  refine Wk_skip (pp (Wk_seq (Wk_regionZ fun Z hZ => ?_)))
  simp (config := { maxSteps := 4000000 }) only [go_sem, seval, hc3d]
  refine hZ _ (pp (Wk_seq (Wk_seq (Wk_regionZ fun Z hZ => ?_))))
  simp (config := { maxSteps := 4000000 }) only [go_sem, seval]
  refine hZ _ (pp (Wk_block (Wk_real fun hreal5 => ?_)))
  have hl4 := hreal5.lenT 0 (by decide) (by simp only [go_sem, seval]; rfl)
  rw [List.length_map] at hl4
  refine Wk_range (fun (v6 : Nat) (b : List Reminder) => ⟨tab 168 (updT (updT (updT (updT deadT 0 (.sl false none 5 none (a0.map actorgridlaw29_Act.row))) 1 (.val (.int .u16 a1))) 5 (.sl false none 4 none (b.map Reminder.row))) 6 (.val (.int .i64 ((v6 : Nat) : Int)))), RZ⟩) [] h ?_ ?_
  · refine Weak.trans (weak_nilT 5 4 (by simp only [go_sem, seval])) ?_
    refine weak_roots ?_ ?_ <;> repeat' first | exact xn | exact rn | refine xc ?_ ?_ | refine rc ?_ ?_ ?_ | rfl | simp only [go_sem, seval, Bool.or_self, List.length_set, Int.natCast_zero, Int.cast_ofNat_Int, hr1, hc2, hc3d]
  rintro v6 l5 hi6 h -
  rcases (drop_cases a0 v6 hi6) with ⟨x9, hi6', hx7, hd9⟩ | ⟨hi6', _, hd9⟩
  · rw [hd9] at h
    simp only [law29_RemindersSorted_L1] at h
    have hw8 := wrap_succ hi6' hl4
    refine Wk_seq (Wk_seq (Wk_regionZ fun Z hZ => ?_))
    simp (config := { maxSteps := 4000000 }) only [go_sem, seval, hi6']
    refine hZ _ (pp ?_)
    try simp only [Int.ofNat_lt, hi6', if_true, if_false] at h
    refine Wk_cond_t rfl (Wk_skip (pp (Wk_seq (Wk_block (Wk_seq ?_)))))
    try rw [gx_nat hx7] at h
    try rw [gx_nat hx7] at h
    obtain ⟨r12, hr10, h⟩ := Option.bind_eq_some_iff.1 h
    try rw [gx_nat hx7] at h
    try rw [gx_nat hx7] at h
    obtain ⟨r13, hr11, h⟩ := Option.bind_eq_some_iff.1 h
    refine Wk_regionD fun Z hZ => ?_
    simp (config := { maxSteps := 4000000 }) only [go_sem, seval, hx7, hi6', hr10, hr11]
    repeat with_reducible refine and_bar (by kernel_rfl) ?_
    refine hZ _ (by kernel_rfl) (pp (Wk_seq (Wk_regionZ fun Z hZ => ?_)))
    simp (config := { maxSteps := 4000000 }) only [go_sem, seval]
    refine hZ _ (pp (Wk_cond_dec rfl (fun hc12 => ?_) (fun hc12 => ?_)))
    · have hc12d := decide_eq_true hc12
      first | rw [if_pos hc12] at h | rw [if_pos hc12d] at h | simp only [hc12d, Bool.not_true, Bool.not_false, Bool.false_eq_true, if_true, if_false] at h
      refine Wk_regionZ fun Z hZ => ?_
      simp (config := { maxSteps := 4000000 }) only [go_sem, seval, hc12d]
      refine hZ _ (pp (Wk_regionZ fun Z hZ => ?_))
      simp (config := { maxSteps := 4000000 }) only [go_sem, seval, hw8]
      refine hZ _ (pp ?_)
      first | refine ⟨r13.1, ?_, h⟩ | refine ⟨hi6', r13.1, ?_, h⟩
      refine weak_roots ?_ ?_ <;> repeat' first | exact xn | exact rn | refine xc ?_ ?_ | refine rc ?_ ?_ ?_ | rfl | simp only [go_sem, seval, Bool.or_self, List.length_set, Int.natCast_zero, Int.cast_ofNat_Int, hr1, hc2, hc3d, hx7, hi6', hw8, hr10, hr11, hc12d]
    have hc12d := decide_eq_false hc12
    first | rw [if_neg hc12] at h | rw [if_neg (ne_true_of_eq_false hc12d)] at h | simp only [hc12d, Bool.not_true, Bool.not_false, Bool.false_eq_true, if_true, if_false] at h
    refine Wk_skip (pp (Wk_regionZ fun Z hZ => ?_))
    simp (config := { maxSteps := 4000000 }) only [go_sem, seval, hw8, hc12d]
    refine hZ _ (pp ?_)
    first | refine ⟨l5, ?_, h⟩ | refine ⟨hi6', l5, ?_, h⟩
    refine weak_roots ?_ ?_ <;> repeat' first | exact xn | exact rn | refine xc ?_ ?_ | refine rc ?_ ?_ ?_ | rfl | simp only [go_sem, seval, Bool.or_self, List.length_set, Int.natCast_zero, Int.cast_ofNat_Int, hr1, hc2, hc3d, hx7, hi6', hw8, hr10, hr11, hc12d]
  rw [hd9] at h
  simp only [law29_RemindersSorted_L1] at h
  refine Wk_seq (Wk_seq (Wk_regionZ fun Z hZ => ?_))
  simp (config := { maxSteps := 4000000 }) only [go_sem, seval, hi6']
  refine hZ _ (pp ?_)
  try simp only [Int.ofNat_lt, hi6', if_true, if_false] at h
  refine Wk_cond_f rfl (Wk_exit (pp ?_))
  unfold law29_RemindersSorted_J4 at h
  refine Wk_seq ?_
  obtain ⟨r14, hr13, h⟩ := Option.bind_eq_some_iff.1 h
  refine Wk_regionZ fun Z hZ => ?_
  simp (config := { maxSteps := 4000000 }) only [go_sem, seval, hr13]
  refine hZ _ (pp (Wk_seq (Wk_regionZ fun Z hZ => ?_)))
  simp (config := { maxSteps := 4000000 }) only [go_sem, seval]
  refine hZ _ (pp (Wk_seq (Wk_seq (Wk_regionZ fun Z hZ => ?_))))
  simp (config := { maxSteps := 4000000 }) only [go_sem, seval]
  refine hZ _ (pp (Wk_block (Wk_real fun hreal15 => ?_)))
  have hl14 := hreal15.lenT 5 (by decide) (by simp only [go_sem, seval]; rfl)
  rw [List.length_map] at hl14
  refine Wk_range (fun (v19 : Nat) (b : Int) => ⟨tab 168 (updT (updT (updT (updT (updT deadT 1 (.val (.int .u16 a1))) 5 (.sl false none 4 none (l5.map Reminder.row))) 9 (.sl false none 4 none (r14.map Reminder.row))) 10 (.val (.int .i64 b))) 11 (.val (.int .i64 ((v19 : Nat) : Int)))), RZ⟩) 0 h ?_ ?_
  · refine weak_roots ?_ ?_ <;> repeat' first | exact xn | exact rn | refine xc ?_ ?_ | refine rc ?_ ?_ ?_ | rfl | simp only [go_sem, seval, Bool.or_self, List.length_set, Int.natCast_zero, Int.cast_ofNat_Int, hr1, hc2, hc3d, hi6', hr13]
  rintro v19 v18 hi16 h -
  rcases (drop_cases l5 v19 hi16) with ⟨x22, hi16', hx17, hd19⟩ | ⟨hi16', _, hd19⟩
  · rw [hd19] at h
    simp only [law29_RemindersSorted_L2] at h
    have hw18 := wrap_succ hi16' hl14
    refine Wk_seq (Wk_seq (Wk_regionZ fun Z hZ => ?_))
    simp (config := { maxSteps := 4000000 }) only [go_sem, seval, hi16']
    refine hZ _ (pp ?_)
    try simp only [Int.ofNat_lt, hi6', hi16', if_true, if_false] at h
    refine Wk_cond_t rfl (Wk_skip (pp (Wk_seq (Wk_block (Wk_seq ?_)))))
    try rw [gx_nat hx17] at h
    refine Wk_regionZ fun Z hZ => ?_
    simp (config := { maxSteps := 4000000 }) only [go_sem, seval, hx17, hi16']
    refine hZ _ (pp (Wk_cond_dec rfl (fun hc20 => ?_) (fun hc20 => ?_)))
    · have hc20d := decide_eq_true hc20
      first | rw [if_pos hc20] at h | rw [if_pos hc20d] at h | simp only [hc20d, Bool.not_true, Bool.not_false, Bool.false_eq_true, if_true, if_false] at h
      refine Wk_regionZ fun Z hZ => ?_
      simp (config := { maxSteps := 4000000 }) only [go_sem, seval, hc20d]
      refine hZ _ (pp (Wk_regionZ fun Z hZ => ?_))
      simp (config := { maxSteps := 4000000 }) only [go_sem, seval, hw18]
      refine hZ _ (pp ?_)
      first | refine ⟨(IntKind.i64.wrap (v18 + 1)), ?_, h⟩ | refine ⟨hi16', (IntKind.i64.wrap (v18 + 1)), ?_, h⟩
      refine weak_roots ?_ ?_ <;> repeat' first | exact xn | exact rn | refine xc ?_ ?_ | refine rc ?_ ?_ ?_ | rfl | simp only [go_sem, seval, Bool.or_self, List.length_set, Int.natCast_zero, Int.cast_ofNat_Int, hr1, hc2, hc3d, hi6', hr13, hx17, hi16', hw18, hc20d]
    have hc20d := decide_eq_false hc20
    first | rw [if_neg hc20] at h | rw [if_neg (ne_true_of_eq_false hc20d)] at h | simp only [hc20d, Bool.not_true, Bool.not_false, Bool.false_eq_true, if_true, if_false] at h
    refine Wk_skip (pp (Wk_regionZ fun Z hZ => ?_))
    simp (config := { maxSteps := 4000000 }) only [go_sem, seval, hw18, hc20d]
    refine hZ _ (pp ?_)
    first | refine ⟨v18, ?_, h⟩ | refine ⟨hi16', v18, ?_, h⟩
    refine weak_roots ?_ ?_ <;> repeat' first | exact xn | exact rn | refine xc ?_ ?_ | refine rc ?_ ?_ ?_ | rfl | simp only [go_sem, seval, Bool.or_self, List.length_set, Int.natCast_zero, Int.cast_ofNat_Int, hr1, hc2, hc3d, hi6', hr13, hx17, hi16', hw18, hc20d]
  rw [hd19] at h
  simp only [law29_RemindersSorted_L2] at h
  refine Wk_seq (Wk_seq (Wk_regionZ fun Z hZ => ?_))
  simp (config := { maxSteps := 4000000 }) only [go_sem, seval, hi16']
  refine hZ _ (pp ?_)
  try simp only [Int.ofNat_lt, hi6', hi16', if_true, if_false] at h
  refine Wk_cond_f rfl (Wk_exit (pp ?_))
  unfold law29_RemindersSorted_J3 at h
  refine Wk_seq (Wk_seq (Wk_regionZ fun Z hZ => ?_))
  simp (config := { maxSteps := 4000000 }) only [go_sem, seval]
  refine hZ _ (pp (Wk_block (Wk_real fun hreal22 => ?_)))
  have hl21 := hreal22.lenT 9 (by decide) (by simp only [go_sem, seval]; rfl)
  rw [List.length_map] at hl21
  refine Wk_range (fun (v28 : Nat) (b : Unit) => ⟨tab 168 (updT (updT (updT (updT (updT deadT 1 (.val (.int .u16 a1))) 5 (.sl false none 4 none (l5.map Reminder.row))) 9 (.sl false none 4 none (r14.map Reminder.row))) 10 (.val (.int .i64 v18))) 12 (.val (.int .i64 ((v28 : Nat) : Int)))), RZ⟩) () h ?_ ?_
  · refine weak_roots ?_ ?_ <;> repeat' first | exact xn | exact rn | refine xc ?_ ?_ | refine rc ?_ ?_ ?_ | rfl | simp only [go_sem, seval, Bool.or_self, List.length_set, Int.natCast_zero, Int.cast_ofNat_Int, hr1, hc2, hc3d, hi6', hr13, hi16']
  rintro v28 ⟨⟩ hi23 h -
  rcases (drop_cases r14 v28 hi23).symm with ⟨hi23', _, hd26⟩ | ⟨x31, hi23', hx24, hd26⟩
  · rw [hd26] at h
    simp only [law29_RemindersSorted_L3] at h
    refine Wk_seq (Wk_seq (Wk_regionZ fun Z hZ => ?_))
    simp (config := { maxSteps := 4000000 }) only [go_sem, seval, hi23']
    refine hZ _ (pp ?_)
    try simp only [Int.ofNat_lt, hi6', hi16', hi23', if_true, if_false] at h
    refine Wk_cond_f rfl (Wk_exit (pp ?_))
    unfold law29_RemindersSorted_J2 at h
    refine Wk_seq ?_
    obtain ⟨r35, hr35, h⟩ := Option.bind_eq_some_iff.1 h
    refine Wk_regionZ fun Z hZ => ?_
    simp (config := { maxSteps := 4000000 }) only [go_sem, seval, hr35]
    refine hZ _ (pp (Wk_seq (Wk_regionZ fun Z hZ => ?_)))
    simp (config := { maxSteps := 4000000 }) only [go_sem, seval]
    refine sw (RX_guard_dec rfl) (fun hc36 => ?_) (fun hc36 => ?_)
    · have hc36d := decide_eq_false hc36
      first | rw [if_neg hc36] at h | rw [if_neg (ne_true_of_eq_false hc36d)] at h | simp only [hc36d, Bool.not_true, Bool.not_false, Bool.false_eq_true, if_true, if_false] at h
      simp (config := { maxSteps := 4000000 }) only [go_sem, seval, hc36d]
      refine hZ _ (pp (Wk_ret (pp ?_)))
      cases h
      simp (config := { maxSteps := 4000000 }) only [go_sem, seval]
      exact ⟨_, rfl, (by exact ROk.refl _), (by repeat' (first | exact PureC.val _ | refine PureC.tup ?_ | refine PureC.agg ?_ | exact pure_nil | refine pure_cons ?_ ?_))⟩
    have hc36d := decide_eq_true hc36
    first | rw [if_pos hc36] at h | rw [if_pos hc36d] at h | simp only [hc36d, Bool.not_true, Bool.not_false, Bool.false_eq_true, if_true, if_false] at h
    simp (config := { maxSteps := 4000000 }) only [go_sem, seval, hc36d]
    refine sw (RX_guard_dec rfl) (fun hc37 => ?_) (fun hc37 => ?_)
    · have hc37d := decide_eq_false hc37
      first | rw [if_neg hc37] at h | rw [if_neg (ne_true_of_eq_false hc37d)] at h | simp only [hc37d, Bool.not_true, Bool.not_false, Bool.false_eq_true, if_true, if_false] at h
      simp (config := { maxSteps := 4000000 }) only [go_sem, seval, hc37d]
      refine hZ _ (pp (Wk_ret (pp ?_)))
      cases h
      simp (config := { maxSteps := 4000000 }) only [go_sem, seval]
      exact ⟨_, rfl, (by exact ROk.refl _), (by repeat' (first | exact PureC.val _ | refine PureC.tup ?_ | refine PureC.agg ?_ | exact pure_nil | refine pure_cons ?_ ?_))⟩
    have hc37d := decide_eq_true hc37
    first | rw [if_pos hc37] at h | rw [if_pos hc37d] at h | simp only [hc37d, Bool.not_true, Bool.not_false, Bool.false_eq_true, if_true, if_false] at h
    simp (config := { maxSteps := 4000000 }) only [go_sem, seval, hc37d]
    refine RX_guard_dec rfl (fun hc38 => ?_) (fun hc38 => ?_)
    · have hc38d := decide_eq_true hc38
      first | rw [if_pos hc38] at h | rw [if_pos hc38d] at h | simp only [hc38d, Bool.not_true, Bool.not_false, Bool.false_eq_true, if_true, if_false] at h
      simp (config := { maxSteps := 4000000 }) only [go_sem, seval, hc38d]
      refine hZ _ (pp (Wk_ret (pp ?_)))
      cases h
      simp (config := { maxSteps := 4000000 }) only [go_sem, seval]
      exact ⟨_, rfl, (by exact ROk.refl _), (by repeat' (first | exact PureC.val _ | refine PureC.tup ?_ | refine PureC.agg ?_ | exact pure_nil | refine pure_cons ?_ ?_))⟩
    have hc38d := decide_eq_false hc38
    first | rw [if_neg hc38] at h | rw [if_neg (ne_true_of_eq_false hc38d)] at h | simp only [hc38d, Bool.not_true, Bool.not_false, Bool.false_eq_true, if_true, if_false] at h
    obtain ⟨x36, hb39, hx40, h⟩ := gx_some h
    try simp only [Int.toNat_zero] at hx40
    try simp only [Int.ofNat_lt, Int.natCast_nonneg, true_and] at hb39
    simp (config := { maxSteps := 4000000 }) only [go_sem, seval, hc38d, hb39, hx40]
    refine hZ _ (pp (Wk_ret (pp ?_)))
    cases h
    simp (config := { maxSteps := 4000000 }) only [go_sem, seval]
    exact ⟨_, rfl, (by exact ROk.refl _), (by repeat' (first | exact PureC.val _ | refine PureC.tup ?_ | refine PureC.agg ?_ | exact pure_nil | refine pure_cons ?_ ?_))⟩
  rw [hd26] at h
  simp only [law29_RemindersSorted_L3] at h
  have hw25 := wrap_succ hi23' hl21
  refine Wk_seq (Wk_seq (Wk_regionZ fun Z hZ => ?_))
  simp (config := { maxSteps := 4000000 }) only [go_sem, seval, hi23']
  refine hZ _ (pp ?_)
  try simp only [Int.ofNat_lt, hi6', hi16', hi23', if_true, if_false] at h
  refine Wk_cond_t rfl (Wk_skip (pp (Wk_seq (Wk_block ?_))))
  apply Wk_join1 (fun (c33 : Bool) => ⟨tab 168 (updT (updT (updT (updT (updT (updT deadT 1 (.val (.int .u16 a1))) 5 (.sl false none 4 none (l5.map Reminder.row))) 9 (.sl false none 4 none (r14.map Reminder.row))) 10 (.val (.int .i64 v18))) 12 (.val (.int .i64 ((v28 : Nat) : Int)))) 139 (.val (.bool c33))), RZ⟩)
  · intro hJ27
    try rw [gx_nat hx24] at h
    refine Wk_regionD fun Z hZ => ?_
    simp (config := { maxSteps := 4000000 }) only [go_sem, seval, hx24, hi23']
    repeat with_reducible refine and_bar (by kernel_rfl) ?_
    refine RX_guard_dec rfl (fun hc28 => ?_) (fun hc28 => ?_)
    · have hc28d := decide_eq_true hc28
      first | rw [if_pos hc28] at h | rw [if_pos hc28d] at h | simp only [hc28d, Bool.not_true, Bool.not_false, Bool.false_eq_true, if_true, if_false] at h
      simp (config := { maxSteps := 4000000 }) only [go_sem, seval, hc28d]
      repeat with_reducible refine and_bar (by kernel_rfl) ?_
      refine hZ _ (by kernel_rfl) (pp (hJ27 _ true ?_ h))
      refine weak_roots ?_ ?_ <;> repeat' first | exact xn | exact rn | refine xc ?_ ?_ | refine rc ?_ ?_ ?_ | rfl | simp only [go_sem, seval, Bool.or_self, List.length_set, Int.natCast_zero, Int.cast_ofNat_Int, hr1, hc2, hc3d, hi6', hr13, hi16', hx24, hi23', hw25, hc28d]
    have hc28d := decide_eq_false hc28
    first | rw [if_neg hc28] at h | rw [if_neg (ne_true_of_eq_false hc28d)] at h | simp only [hc28d, Bool.not_true, Bool.not_false, Bool.false_eq_true, if_true, if_false] at h
    simp (config := { maxSteps := 4000000 }) only [go_sem, seval, hc28d]
    repeat with_reducible refine and_bar (by kernel_rfl) ?_
    refine sw (RX_guard_dec rfl) (fun hc29 => ?_) (fun hc29 => ?_)
    · have hc29d := decide_eq_false hc29
      first | rw [if_neg hc29] at h | rw [if_neg (ne_true_of_eq_false hc29d)] at h | simp only [hc29d, Bool.not_true, Bool.not_false, Bool.false_eq_true, if_true, if_false] at h
      simp (config := { maxSteps := 4000000 }) only [go_sem, seval, hc29d]
      repeat with_reducible refine and_bar (by kernel_rfl) ?_
      refine hZ _ (by kernel_rfl) (pp (hJ27 _ false ?_ h))
      refine weak_roots ?_ ?_ <;> repeat' first | exact xn | exact rn | refine xc ?_ ?_ | refine rc ?_ ?_ ?_ | rfl | simp only [go_sem, seval, Bool.or_self, List.length_set, Int.natCast_zero, Int.cast_ofNat_Int, hr1, hc2, hc3d, hi6', hr13, hi16', hx24, hi23', hw25, hc28d, hc29d]
    have hc29d := decide_eq_true hc29
    first | rw [if_pos hc29] at h | rw [if_pos hc29d] at h | simp only [hc29d, Bool.not_true, Bool.not_false, Bool.false_eq_true, if_true, if_false] at h
    obtain ⟨x34, hb30, hx31, h⟩ := gx_some h
    try rw [gx_nat hx24] at h
    simp (config := { maxSteps := 4000000 }) only [go_sem, seval, hx24, hi23', hc29d, hb30, hx31]
    repeat with_reducible refine and_bar (by kernel_rfl) ?_
    refine RX_guard_dec rfl (fun hc32 => ?_) (fun hc32 => ?_)
    · have hc32d := decide_eq_true hc32
      first | rw [if_pos hc32] at h | rw [if_pos hc32d] at h | simp only [hc32d, Bool.not_true, Bool.not_false, Bool.false_eq_true, if_true, if_false] at h
      simp (config := { maxSteps := 4000000 }) only [go_sem, seval, hc32d]
      repeat with_reducible refine and_bar (by kernel_rfl) ?_
      refine hZ _ (by kernel_rfl) (pp (hJ27 _ true ?_ h))
      refine weak_roots ?_ ?_ <;> repeat' first | exact xn | exact rn | refine xc ?_ ?_ | refine rc ?_ ?_ ?_ | rfl | simp only [go_sem, seval, Bool.or_self, List.length_set, Int.natCast_zero, Int.cast_ofNat_Int, hr1, hc2, hc3d, hi6', hr13, hi16', hx24, hi23', hw25, hc28d, hc29d, hb30, hx31, hc32d]
    have hc32d := decide_eq_false hc32
    first | rw [if_neg hc32] at h | rw [if_neg (ne_true_of_eq_false hc32d)] at h | simp only [hc32d, Bool.not_true, Bool.not_false, Bool.false_eq_true, if_true, if_false] at h
    try rw [gx_nat hx24] at h
    simp (config := { maxSteps := 4000000 }) only [go_sem, seval, hx24, hi23', hb30, hx31, hc32d]
    repeat with_reducible refine and_bar (by kernel_rfl) ?_
    refine RX_guard_dec rfl (fun hc33 => ?_) (fun hc33 => ?_)
    · have hc33d := decide_eq_true hc33
      first | rw [if_pos hc33] at h | rw [if_pos hc33d] at h | simp only [hc33d, Bool.not_true, Bool.not_false, Bool.false_eq_true, if_true, if_false] at h
      try rw [gx_nat hx24] at h
      simp (config := { maxSteps := 4000000 }) only [go_sem, seval, hx24, hi23', hb30, hx31, hc33d]
      repeat with_reducible refine and_bar (by kernel_rfl) ?_
      refine hZ _ (by kernel_rfl) (pp (hJ27 _ (!(sLt x34.Name x31.Name)) ?_ h))
      refine weak_roots ?_ ?_ <;> repeat' first | exact xn | exact rn | refine xc ?_ ?_ | refine rc ?_ ?_ ?_ | rfl | simp only [go_sem, seval, Bool.or_self, List.length_set, Int.natCast_zero, Int.cast_ofNat_Int, hr1, hc2, hc3d, hi6', hr13, hi16', hx24, hi23', hw25, hc28d, hc29d, hb30, hx31, hc32d, hc33d]
    have hc33d := decide_eq_false hc33
    first | rw [if_neg hc33] at h | rw [if_neg (ne_true_of_eq_false hc33d)] at h | simp only [hc33d, Bool.not_true, Bool.not_false, Bool.false_eq_true, if_true, if_false] at h
    simp (config := { maxSteps := 4000000 }) only [go_sem, seval, hc33d]
    repeat with_reducible refine and_bar (by kernel_rfl) ?_
    refine hZ _ (by kernel_rfl) (pp (hJ27 _ false ?_ h))
    refine weak_roots ?_ ?_ <;> repeat' first | exact xn | exact rn | refine xc ?_ ?_ | refine rc ?_ ?_ ?_ | rfl | simp only [go_sem, seval, Bool.or_self, List.length_set, Int.natCast_zero, Int.cast_ofNat_Int, hr1, hc2, hc3d, hi6', hr13, hi16', hx24, hi23', hw25, hc28d, hc29d, hb30, hx31, hc32d, hc33d]
  intro c33 h
  unfold law29_RemindersSorted_J1 at h
  refine Wk_cond_bool rfl (fun hc34 => ?_) (fun hc34 => ?_)
  · first | rw [if_pos hc34] at h | simp only [hc34, hc2, Bool.or_false, Bool.or_true, Bool.false_or, Bool.true_or, Bool.and_true, Bool.true_and, Bool.and_false, Bool.false_and, Bool.not_true, Bool.not_false, Bool.false_eq_true, if_true, if_false] at h
    refine Wk_seq (Wk_regionZ fun Z hZ => ?_)
    simp (config := { maxSteps := 4000000 }) only [go_sem, seval, hc34]
    refine hZ _ (pp (Wk_ret (pp ?_)))
    cases h
    simp (config := { maxSteps := 4000000 }) only [go_sem, seval]
    exact ⟨_, rfl, (by exact ROk.refl _), (by repeat' (first | exact PureC.val _ | refine PureC.tup ?_ | refine PureC.agg ?_ | exact pure_nil | refine pure_cons ?_ ?_))⟩
  first | rw [if_neg (ne_true_of_eq_false hc34)] at h | simp only [hc34, hc2, Bool.or_false, Bool.or_true, Bool.false_or, Bool.true_or, Bool.and_true, Bool.true_and, Bool.and_false, Bool.false_and, Bool.not_true, Bool.not_false, Bool.false_eq_true, if_true, if_false] at h
  refine Wk_skip (pp (Wk_regionZ fun Z hZ => ?_))
  simp (config := { maxSteps := 4000000 }) only [go_sem, seval, hw25, hc34]
  refine hZ _ (pp ?_)
  first | refine ⟨(), ?_, h⟩ | refine ⟨hi23', (), ?_, h⟩
  refine weak_roots ?_ ?_ <;> repeat' first | exact xn | exact rn | refine xc ?_ ?_ | refine rc ?_ ?_ ?_ | rfl | simp only [go_sem, seval, Bool.or_self, List.length_set, Int.natCast_zero, Int.cast_ofNat_Int, hr1, hc2, hc3d, hi6', hr13, hi16', hx24, hi23', hw25, hc34]
def fs_law29_RemindersSorted (N : Nat) : FnS := ⟨[], true, fn2 (decL 5 actorgridlaw29_Act.dec) (decI .u16) fun q0 q1 => (law29_RemindersSorted N q0 q1).map fun r => .val (.bool r), false⟩
attribute [go_sem] fs_law29_RemindersSorted
theorem fs_law29_RemindersSorted_ok (N : Nat) : FSOk Try.prog 6 (fs_law29_RemindersSorted N) := ok2 (fun q0 q1 r h => by
  obtain ⟨r', hr, rfl⟩ := Option.map_eq_some_iff.1 h
  exact w_law29_RemindersSorted N q0 q1 r' hr) (fun h => decL_le actorgridlaw29_Act.dec_le h) (decI_le)

end Go.Proofs.Ythdbndgfjldhpaa
