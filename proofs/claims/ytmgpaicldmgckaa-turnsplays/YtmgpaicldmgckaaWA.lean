/- Walks: each function computes its model. No condition. -/
import Derived.Test.YtmgpaicldmgckaaB
/- Each Go function computes its model: proofs laid by a program of ours. -/
set_option maxHeartbeats 40000000
set_option synthInstance.maxHeartbeats 2000000
set_option synthInstance.maxSize 4000
set_option linter.unusedSimpArgs false
set_option linter.unusedVariables false
set_option maxRecDepth 100000
namespace Go.Proofs.Ytmgpaicldmgckaa
open Go Go.Proofs Go.Abs
theorem w_directory_ValidRef (N : Nat) (a0 : Ref) (r : Bool) (h : directory_ValidRef N a0 = some r) : Con Try.prog 54 [] true [.agg [.val (.string a0.Type_), .val (.string a0.Key)]] (.val (.bool r)) := by
  refine fun_ok4 (G := (glist [])) Try.func54 rfl (by decide) (by kernel_rfl) gn [] mix (Nat.le_of_ble_eq_true rfl) ?_
  simp only [Try.f54]
  unfold directory_ValidRef at h
  refine Wk_seq (Wk_regionZ fun Z hZ => ?_)
  simp only [go_sem, seval]
  refine hZ _ (pp (Wk_seq (Wk_regionZ fun Z hZ => ?_)))
  simp only [go_sem, seval]
  refine sw (RX_guard_dec rfl) (fun hc1 => ?_) (fun hc1 => ?_)
  · have hc1d := decide_eq_false hc1
    rw [if_neg hc1] at h
    simp only [go_sem, seval, hc1d]
    refine hZ _ (pp (Wk_ret (pp ?_)))
    cases h
    simp only [go_sem, seval]
    exact ⟨_, rfl, RokI.h, PureI.h⟩
  have hc1d := decide_eq_true hc1
  rw [if_pos hc1] at h
  simp only [go_sem, seval, hc1d]
  refine RX_guard_dec rfl (fun hc2 => ?_) (fun hc2 => ?_)
  · have hc2d := decide_eq_true hc2
    rw [if_pos hc2] at h
    simp only [go_sem, seval, hc2d]
    refine hZ _ (pp (Wk_ret (pp ?_)))
    cases h
    simp only [go_sem, seval]
    exact ⟨_, rfl, RokI.h, PureI.h⟩
  have hc2d := decide_eq_false hc2
  rw [if_neg hc2] at h
  simp only [go_sem, seval, hc2d]
  refine hZ _ (pp (Wk_ret (pp ?_)))
  cases h
  simp only [go_sem, seval]
  exact ⟨_, rfl, RokI.h, PureI.h⟩
def fs_directory_ValidRef (N : Nat) : FnS := ⟨[], true, fn1 Ref.decA fun q0 => (directory_ValidRef N q0).map fun r => .val (.bool r), false⟩
attribute [go_sem] fs_directory_ValidRef
theorem fs_directory_ValidRef_ok (N : Nat) : FSOk Try.prog 54 (fs_directory_ValidRef N) := ok1 (fun q0 r h => by
  obtain ⟨r', hr, rfl⟩ := Option.map_eq_some_iff.1 h
  exact w_directory_ValidRef N q0 r' hr) (Ref.decA_le)


noncomputable def G_turns_New (N d f : Nat) : Option FnS := glist [(4, 54, fs_directory_ValidRef N)] d f
attribute [go_sem] G_turns_New
theorem w_turns_New (N : Nat) (a0 : Ref) (r : Actor) (h : turns_New N a0 = some r) : Con Try.prog 27 [] true [.agg [.val (.string a0.Type_), .val (.string a0.Key)]] (.agg (Actor.row r)) := by
  refine fun_ok4 (G := (G_turns_New N)) Try.func27 rfl (by decide) (by kernel_rfl) (gc 4 (fs_directory_ValidRef_ok N) gn) [] mix (Nat.le_of_ble_eq_true rfl) ?_
  simp only [Try.f27]
  unfold turns_New at h
  refine Wk_seq (Wk_regionZ fun Z hZ => ?_)
  simp only [go_sem, seval]
  refine hZ _ (pp (Wk_seq (Wk_seq ?_)))
  obtain ⟨r1, hr1, h⟩ := Option.bind_eq_some_iff.1 h
  refine Wk_regionZ fun Z hZ => ?_
  simp only [go_sem, seval, hr1]
  refine hZ _ (pp (Wk_cond_nbool rfl (fun hc2 => ?_) (fun hc2 => ?_)))
  · rw [if_neg (ne_true_of_eq_false hc2)] at h
    refine Wk_seq (Wk_regionZ fun Z hZ => ?_)
    simp only [go_sem, seval, hc2]
    refine hZ _ (pp (Wk_ret (pp ?_)))
    cases h
    simp only [go_sem, seval]
    exact ⟨_, rfl, RokI.h, PureI.h⟩
  rw [if_pos hc2] at h
  refine Wk_skip (pp (Wk_seq (Wk_regionZ fun Z hZ => ?_)))
  simp only [go_sem, seval, hc2]
  refine hZ _ (pp (Wk_ret (pp ?_)))
  cases h
  simp only [go_sem, seval]
  exact ⟨_, rfl, RokI.h, PureI.h⟩
def fs_turns_New (N : Nat) : FnS := ⟨[], true, fn1 Ref.decA fun q0 => (turns_New N q0).map fun r => .agg (Actor.row r), false⟩
attribute [go_sem] fs_turns_New
theorem fs_turns_New_ok (N : Nat) : FSOk Try.prog 27 (fs_turns_New N) := ok1 (fun q0 r h => by
  obtain ⟨r', hr, rfl⟩ := Option.map_eq_some_iff.1 h
  exact w_turns_New N q0 r' hr) (Ref.decA_le)


theorem w_turns_number (N : Nat) (a0 : Int) (r : Bool) (h : turns_number N a0 = some r) : Con Try.prog 55 [] true [.val (.int .i64 a0)] (.val (.bool r)) := by
  refine fun_ok4 (G := (glist [])) Try.func55 rfl (by decide) (by kernel_rfl) gn [] mix (Nat.le_of_ble_eq_true rfl) ?_
  simp only [Try.f55]
  unfold turns_number at h
  refine Wk_seq (Wk_regionZ fun Z hZ => ?_)
  simp only [go_sem, seval]
  refine hZ _ (pp (Wk_seq (Wk_regionZ fun Z hZ => ?_)))
  simp only [go_sem, seval]
  refine RX_guard_dec rfl (fun hc1 => ?_) (fun hc1 => ?_)
  · have hc1d := decide_eq_true hc1
    rw [if_pos hc1] at h
    simp only [go_sem, seval, hc1d]
    refine hZ _ (pp (Wk_ret (pp ?_)))
    cases h
    simp only [go_sem, seval]
    exact ⟨_, rfl, RokI.h, PureI.h⟩
  have hc1d := decide_eq_false hc1
  rw [if_neg hc1] at h
  simp only [go_sem, seval, hc1d]
  refine hZ _ (pp (Wk_ret (pp ?_)))
  cases h
  simp only [go_sem, seval]
  exact ⟨_, rfl, RokI.h, PureI.h⟩
def fs_turns_number (N : Nat) : FnS := ⟨[], true, fn1 (decI .i64) fun q0 => (turns_number N q0).map fun r => .val (.bool r), false⟩
attribute [go_sem] fs_turns_number
theorem fs_turns_number_ok (N : Nat) : FSOk Try.prog 55 (fs_turns_number N) := ok1 (fun q0 r h => by
  obtain ⟨r', hr, rfl⟩ := Option.map_eq_some_iff.1 h
  exact w_turns_number N q0 r' hr) (decI_le)


theorem w_turns_name (N : Nat) (a0 : ByteArray) (r : Bool) (h : turns_name N a0 = some r) : Con Try.prog 60 [] true [.val (.string a0)] (.val (.bool r)) := by
  refine fun_ok4 (G := (glist [])) Try.func60 rfl (by decide) (by kernel_rfl) gn [] mix (Nat.le_of_ble_eq_true rfl) ?_
  simp only [Try.f60]
  unfold turns_name at h
  refine Wk_seq (Wk_regionZ fun Z hZ => ?_)
  simp only [go_sem, seval]
  refine hZ _ (pp (Wk_seq (Wk_regionZ fun Z hZ => ?_)))
  simp only [go_sem, seval]
  refine RX_guard_dec rfl (fun hc1 => ?_) (fun hc1 => ?_)
  · have hc1d := decide_eq_true hc1
    rw [if_pos hc1] at h
    simp only [go_sem, seval, hc1d]
    refine hZ _ (pp (Wk_ret (pp ?_)))
    cases h
    simp only [go_sem, seval]
    exact ⟨_, rfl, RokI.h, PureI.h⟩
  have hc1d := decide_eq_false hc1
  rw [if_neg hc1] at h
  simp only [go_sem, seval, hc1d]
  refine hZ _ (pp (Wk_ret (pp ?_)))
  cases h
  simp only [go_sem, seval]
  exact ⟨_, rfl, RokI.h, PureI.h⟩
def fs_turns_name (N : Nat) : FnS := ⟨[], true, fn1 decS fun q0 => (turns_name N q0).map fun r => .val (.bool r), false⟩
attribute [go_sem] fs_turns_name
theorem fs_turns_name_ok (N : Nat) : FSOk Try.prog 60 (fs_turns_name N) := ok1 (fun q0 r h => by
  obtain ⟨r', hr, rfl⟩ := Option.map_eq_some_iff.1 h
  exact w_turns_name N q0 r' hr) (decS_le)


noncomputable def G_turns_validID_1 (N d f : Nat) : Option FnS := glist [(4, 55, fs_turns_number N)] d f
attribute [go_sem] G_turns_validID_1
theorem w_turns_validID_1 (N : Nat) (a0 : Int) (r : Bool) (h : turns_validID_1 N a0 = some r) : Con Try.prog 88 [] true [.val (.int .i64 a0)] (.val (.bool r)) := by
  refine fun_ok4 (G := (G_turns_validID_1 N)) Try.func88 rfl (by decide) (by kernel_rfl) (gc 4 (fs_turns_number_ok N) gn) [] mix (Nat.le_of_ble_eq_true rfl) ?_
  simp only [Try.f88]
  unfold turns_validID_1 at h
  refine Wk_seq (Wk_regionZ fun Z hZ => ?_)
  simp only [go_sem, seval]
  refine hZ _ (pp (Wk_seq ?_))
  obtain ⟨r1, hr1, h⟩ := Option.bind_eq_some_iff.1 h
  refine Wk_regionZ fun Z hZ => ?_
  simp only [go_sem, seval, hr1]
  refine hZ _ (pp (Wk_ret (pp ?_)))
  cases h
  simp only [go_sem, seval]
  exact ⟨_, rfl, RokI.h, PureI.h⟩
def fs_turns_validID_1 (N : Nat) : FnS := ⟨[], true, fn1 (decI .i64) fun q0 => (turns_validID_1 N q0).map fun r => .val (.bool r), false⟩
attribute [go_sem] fs_turns_validID_1
theorem fs_turns_validID_1_ok (N : Nat) : FSOk Try.prog 88 (fs_turns_validID_1 N) := ok1 (fun q0 r h => by
  obtain ⟨r', hr, rfl⟩ := Option.map_eq_some_iff.1 h
  exact w_turns_validID_1 N q0 r' hr) (decI_le)


noncomputable def G_slices_IndexFunc_int_turns_validID_1 (N d f : Nat) : Option FnS := glist [(16, 88, fs_turns_validID_1 N)] d f
attribute [go_sem] G_slices_IndexFunc_int_turns_validID_1
theorem w_slices_IndexFunc_int_turns_validID_1 (N : Nat) (a0 : (List Int)) (r : Int) (h : slices_IndexFunc_int_turns_validID_1 N a0 = some r) : Con Try.prog 99 [] true [.sl false none 1 none (a0.map (rowI .i64)), .clo 88 []] (.val (.int .i64 r)) := by
  refine fun_ok4 (G := (G_slices_IndexFunc_int_turns_validID_1 N)) Try.func99 rfl (by decide) (by kernel_rfl) (gc 16 (fs_turns_validID_1_ok N) gn) [] mix (Nat.le_of_ble_eq_true rfl) ?_
  simp only [Try.f99]
  unfold slices_IndexFunc_int_turns_validID_1 at h
  refine Wk_seq (Wk_regionZ fun Z hZ => ?_)
  simp only [go_sem, seval]
  refine hZ _ (pp (Wk_seq (Wk_seq (Wk_regionZ fun Z hZ => ?_))))
  simp only [go_sem, seval]
  refine hZ _ (pp (Wk_block (Wk_real fun hreal2 => ?_)))
  have hl1 := hreal2.lenT 0 (by decide) (by simp only [go_sem, seval]; rfl)
  rw [List.length_map] at hl1
  refine Wk_range (fun (v2 : Nat) (b : Unit) => ⟨tab 19 (updT (updT (updT (updT deadT 0 (.sl false none 1 none (a0.map (rowI .i64)))) 1 (.clo 88 [])) 7 (.val (.int .i64 ((a0.length : Nat) : Int)))) 8 (.val (.int .i64 ((v2 : Nat) : Int)))), RZ⟩) () h ?_ ?_
  · refine weak_roots ?_ ?_ <;> repeat' first | exact xn | exact rn | refine xc ?_ ?_ | refine rc ?_ ?_ ?_ | rfl
  rintro v2 ⟨⟩ hi3 h -
  rcases (drop_cases a0 v2 hi3).symm with ⟨hi3', _, hd6⟩ | ⟨x5, hi3', hx4, hd6⟩
  · rw [hd6] at h
    simp only [slices_IndexFunc_int_turns_validID_1_L1] at h
    refine Wk_seq (Wk_regionZ fun Z hZ => ?_)
    simp only [go_sem, seval, hi3']
    refine hZ _ (pp (Wk_seq ?_))
    try simp only [Int.ofNat_lt, hi3', if_true, if_false] at h
    refine Wk_cond_f rfl (Wk_exit (pp (Wk_seq (Wk_regionZ fun Z hZ => ?_))))
    simp only [go_sem, seval]
    refine hZ _ (pp (Wk_ret (pp ?_)))
    cases h
    simp only [go_sem, seval]
    exact ⟨_, rfl, RokI.h, PureI.h⟩
  rw [hd6] at h
  simp only [slices_IndexFunc_int_turns_validID_1_L1] at h
  have hw5 := wrap_succ hi3' hl1
  refine Wk_seq (Wk_regionZ fun Z hZ => ?_)
  simp only [go_sem, seval, hi3']
  refine hZ _ (pp (Wk_seq ?_))
  try simp only [Int.ofNat_lt, hi3', if_true, if_false] at h
  refine Wk_cond_t rfl (Wk_skip (pp (Wk_seq (Wk_block (Wk_seq (Wk_regionZ fun Z hZ => ?_))))))
  simp only [go_sem, seval]
  refine hZ _ (pp (Wk_seq ?_))
  try rw [gx_nat hx4] at h
  obtain ⟨r1, hr7, h⟩ := Option.bind_eq_some_iff.1 h
  refine Wk_regionZ fun Z hZ => ?_
  simp only [go_sem, seval, hx4, hi3', hr7]
  refine hZ _ (pp (Wk_cond_bool rfl (fun hc8 => ?_) (fun hc8 => ?_)))
  · rw [if_pos hc8] at h
    refine Wk_seq (Wk_regionZ fun Z hZ => ?_)
    simp only [go_sem, seval, hc8]
    refine hZ _ (pp (Wk_ret (pp ?_)))
    cases h
    simp only [go_sem, seval]
    exact ⟨_, rfl, RokI.h, PureI.h⟩
  rw [if_neg (ne_true_of_eq_false hc8)] at h
  refine Wk_skip (pp (Wk_regionZ fun Z hZ => ?_))
  simp only [go_sem, seval, hw5, hc8]
  refine hZ _ (pp ?_)
  first | refine ⟨(), ?_, h⟩ | refine ⟨hi3', (), ?_, h⟩
  refine weak_roots ?_ ?_ <;> repeat' first | exact xn | exact rn | refine xc ?_ ?_ | refine rc ?_ ?_ ?_ | rfl
def fs_slices_IndexFunc_int_turns_validID_1 (N : Nat) : FnS := { own := [], pure := true, fn := fun cs => match cs with
  | [c0, .clo 88 []] => ((decL 1 (dec1 (decI .i64))) c0).bind fun qc0 => (slices_IndexFunc_int_turns_validID_1 N qc0).map fun r => .val (.int .i64 r)
  | _ => none }
attribute [go_sem] fs_slices_IndexFunc_int_turns_validID_1
theorem fs_slices_IndexFunc_int_turns_validID_1_ok (N : Nat) : FSOk Try.prog 99 (fs_slices_IndexFunc_int_turns_validID_1 N) := by
  refine ⟨fun cs r h => ?_, fun h => by cases h⟩
  simp only [fs_slices_IndexFunc_int_turns_validID_1] at h
  split at h
  · simp only [Option.bind_eq_some_iff, Option.map_eq_some_iff] at h
    obtain ⟨q0, h0, r', hr, rfl⟩ := h
    exact ((w_slices_IndexFunc_int_turns_validID_1 N q0 r' hr).args (LeL.cons (decL_le (decI1_le .i64) h0) (LeL.cons (Le.clo (LeL.nil)) (LeL.nil))))
  · cases h


noncomputable def G_slices_ContainsFunc_int_turns_validID_1 (N d f : Nat) : Option FnS := glist [(7, 99, fs_slices_IndexFunc_int_turns_validID_1 N)] d f
attribute [go_sem] G_slices_ContainsFunc_int_turns_validID_1
theorem w_slices_ContainsFunc_int_turns_validID_1 (N : Nat) (a0 : (List Int)) (r : Bool) (h : slices_ContainsFunc_int_turns_validID_1 N a0 = some r) : Con Try.prog 87 [] true [.sl false none 1 none (a0.map (rowI .i64)), .clo 88 []] (.val (.bool r)) := by
  refine fun_ok4 (G := (G_slices_ContainsFunc_int_turns_validID_1 N)) Try.func87 rfl (by decide) (by kernel_rfl) (gc 7 (fs_slices_IndexFunc_int_turns_validID_1_ok N) gn) [] mix (Nat.le_of_ble_eq_true rfl) ?_
  simp only [Try.f87]
  unfold slices_ContainsFunc_int_turns_validID_1 at h
  refine Wk_seq (Wk_regionZ fun Z hZ => ?_)
  simp only [go_sem, seval]
  refine hZ _ (pp (Wk_seq ?_))
  obtain ⟨r1, hr1, h⟩ := Option.bind_eq_some_iff.1 h
  refine Wk_regionZ fun Z hZ => ?_
  simp only [go_sem, seval, hr1]
  refine hZ _ (pp (Wk_ret (pp ?_)))
  cases h
  simp only [go_sem, seval]
  exact ⟨_, rfl, RokI.h, PureI.h⟩
def fs_slices_ContainsFunc_int_turns_validID_1 (N : Nat) : FnS := { own := [], pure := true, fn := fun cs => match cs with
  | [c0, .clo 88 []] => ((decL 1 (dec1 (decI .i64))) c0).bind fun qc0 => (slices_ContainsFunc_int_turns_validID_1 N qc0).map fun r => .val (.bool r)
  | _ => none }
attribute [go_sem] fs_slices_ContainsFunc_int_turns_validID_1
theorem fs_slices_ContainsFunc_int_turns_validID_1_ok (N : Nat) : FSOk Try.prog 87 (fs_slices_ContainsFunc_int_turns_validID_1 N) := by
  refine ⟨fun cs r h => ?_, fun h => by cases h⟩
  simp only [fs_slices_ContainsFunc_int_turns_validID_1] at h
  split at h
  · simp only [Option.bind_eq_some_iff, Option.map_eq_some_iff] at h
    obtain ⟨q0, h0, r', hr, rfl⟩ := h
    exact ((w_slices_ContainsFunc_int_turns_validID_1 N q0 r' hr).args (LeL.cons (decL_le (decI1_le .i64) h0) (LeL.cons (Le.clo (LeL.nil)) (LeL.nil))))
  · cases h


noncomputable def G_turns_validID (N d f : Nat) : Option FnS := glist [(8, 60, fs_turns_name N), (11, 55, fs_turns_number N), (24, 87, fs_slices_ContainsFunc_int_turns_validID_1 N)] d f
attribute [go_sem] G_turns_validID
theorem w_turns_validID (N : Nat) (a0 : ByteArray) (a1 : Int) (a2 : (List Int)) (r : Bool) (h : turns_validID N a0 a1 a2 = some r) : Con Try.prog 59 [] true [.val (.string a0), .val (.int .i64 a1), .sl false none 1 none (a2.map (rowI .i64))] (.val (.bool r)) := by
  refine fun_ok4 (G := (G_turns_validID N)) Try.func59 rfl (by decide) (by kernel_rfl) (gc 8 (fs_turns_name_ok N) (gc 11 (fs_turns_number_ok N) (gc 24 (fs_slices_ContainsFunc_int_turns_validID_1_ok N) gn))) [] mix (Nat.le_of_ble_eq_true rfl) ?_
  simp only [Try.f59]
  unfold turns_validID at h
  refine Wk_seq (Wk_regionZ fun Z hZ => ?_)
  simp only [go_sem, seval]
  refine hZ _ (pp (Wk_seq ?_))
  obtain ⟨r1, hr1, h⟩ := Option.bind_eq_some_iff.1 h
  refine Wk_regionZ fun Z hZ => ?_
  simp only [go_sem, seval, hr1]
  refine sw (RX_guard_bool rfl) (fun hc2 => ?_) (fun hc2 => ?_)
  · rw [if_neg (ne_true_of_eq_false hc2)] at h
    simp only [go_sem, seval, hc2]
    refine hZ _ (pp (Wk_ret (pp ?_)))
    cases h
    simp only [go_sem, seval]
    exact ⟨_, rfl, RokI.h, PureI.h⟩
  rw [if_pos hc2] at h
  obtain ⟨r2, hr3, h⟩ := Option.bind_eq_some_iff.1 h
  simp only [go_sem, seval, hc2, hr3]
  refine sw (RX_guard_bool rfl) (fun hc4 => ?_) (fun hc4 => ?_)
  · rw [if_neg (ne_true_of_eq_false hc4)] at h
    simp only [go_sem, seval, hc4]
    refine hZ _ (pp (Wk_ret (pp ?_)))
    cases h
    simp only [go_sem, seval]
    exact ⟨_, rfl, RokI.h, PureI.h⟩
  rw [if_pos hc4] at h
  simp only [go_sem, seval, hc4]
  refine sw (RX_guard_dec rfl) (fun hc5 => ?_) (fun hc5 => ?_)
  · have hc5d := decide_eq_false hc5
    rw [if_neg hc5] at h
    simp only [go_sem, seval, hc5d]
    refine hZ _ (pp (Wk_ret (pp ?_)))
    cases h
    simp only [go_sem, seval]
    exact ⟨_, rfl, RokI.h, PureI.h⟩
  have hc5d := decide_eq_true hc5
  rw [if_pos hc5] at h
  simp only [go_sem, seval, hc5d]
  refine RX_guard_dec rfl (fun hc6 => ?_) (fun hc6 => ?_)
  · have hc6d := decide_eq_true hc6
    rw [if_pos hc6] at h
    obtain ⟨r3, hr7, h⟩ := Option.bind_eq_some_iff.1 h
    simp only [go_sem, seval, hc6d, hr7]
    refine hZ _ (pp (Wk_ret (pp ?_)))
    cases h
    simp only [go_sem, seval]
    exact ⟨_, rfl, RokI.h, PureI.h⟩
  have hc6d := decide_eq_false hc6
  rw [if_neg hc6] at h
  simp only [go_sem, seval, hc6d]
  refine hZ _ (pp (Wk_ret (pp ?_)))
  cases h
  simp only [go_sem, seval]
  exact ⟨_, rfl, RokI.h, PureI.h⟩
def fs_turns_validID (N : Nat) : FnS := ⟨[], true, fn3 decS (decI .i64) (decL 1 (dec1 (decI .i64))) fun q0 q1 q2 => (turns_validID N q0 q1 q2).map fun r => .val (.bool r), false⟩
attribute [go_sem] fs_turns_validID
theorem fs_turns_validID_ok (N : Nat) : FSOk Try.prog 59 (fs_turns_validID N) := ok3 (fun q0 q1 q2 r h => by
  obtain ⟨r', hr, rfl⟩ := Option.map_eq_some_iff.1 h
  exact w_turns_validID N q0 q1 q2 r' hr) (decS_le) (decI_le) (fun h => decL_le (decI1_le .i64) h)


theorem w_wire_ValidValue (N : Nat) (a0 : Value) (r : Bool) (h : wire_ValidValue N a0 = some r) : Con Try.prog 67 [] true [.agg (Value.row a0)] (.val (.bool r)) := by
  refine fun_ok4 (G := (glist [])) Try.func67 rfl (by decide) (by kernel_rfl) gn [] mix (Nat.le_of_ble_eq_true rfl) ?_
  simp only [Try.f67]
  unfold wire_ValidValue at h
  refine Wk_seq (Wk_regionZ fun Z hZ => ?_)
  simp only [go_sem, seval]
  refine hZ _ (pp (Wk_seq ?_))
  apply Wk_join1 (fun (c3 : Bool) => ⟨tab 86 (updT (updT deadT 1 (.pref 1 [] 0 0)) 12 (.val (.bool c3))), (upd RZ 1 (.sl true none 5 (some 1) [Value.row a0]))⟩)
  · intro hJ1
    refine Wk_regionZ fun Z hZ => ?_
    simp only [go_sem, seval]
    refine RX_guard_dec rfl (fun hc2 => ?_) (fun hc2 => ?_)
    · have hc2d := decide_eq_true hc2
      rw [if_pos hc2] at h
      simp only [go_sem, seval, hc2d]
      refine hZ _ (pp (hJ1 _ true ?_ h))
      refine weak_roots ?_ ?_ <;> repeat' first | exact xn | exact rn | refine xc ?_ ?_ | refine rc ?_ ?_ ?_ | rfl | simp only [go_sem, seval, Bool.or_self, List.length_set, Int.natCast_zero, Int.cast_ofNat_Int, hc2d]
    have hc2d := decide_eq_false hc2
    rw [if_neg hc2] at h
    simp only [go_sem, seval, hc2d]
    refine hZ _ (pp (hJ1 _ (decide (5 < a0.Kind)) ?_ h))
    refine weak_roots ?_ ?_ <;> repeat' first | exact xn | exact rn | refine xc ?_ ?_ | refine rc ?_ ?_ ?_ | rfl | simp only [go_sem, seval, Bool.or_self, List.length_set, Int.natCast_zero, Int.cast_ofNat_Int, hc2d]
  intro c3 h
  unfold wire_ValidValue_J1 at h
  refine Wk_cond_bool rfl (fun hc3 => ?_) (fun hc3 => ?_)
  · rw [if_pos hc3] at h
    refine Wk_seq (Wk_regionZ fun Z hZ => ?_)
    simp only [go_sem, seval, hc3]
    refine hZ _ (pp (Wk_ret (pp ?_)))
    cases h
    simp only [go_sem, seval]
    exact ⟨_, rfl, RokI.h, PureI.h⟩
  rw [if_neg (ne_true_of_eq_false hc3)] at h
  refine Wk_skip (pp ?_)
  unfold wire_ValidValue_J9 at h
  refine Wk_seq (Wk_block ?_)
  apply Wk_join1 (fun (c12 : Bool) => ⟨tab 86 (updT (updT deadT 1 (.pref 1 [] 0 0)) 13 (.val (.bool c12))), (upd RZ 1 (.sl true none 5 (some 1) [Value.row a0]))⟩)
  · intro hJ4
    refine Wk_regionZ fun Z hZ => ?_
    simp only [go_sem, seval, hc3]
    refine sw (RX_guard_ndec rfl) (fun hc5 => ?_) (fun hc5 => ?_)
    · have hc5d := decide_eq_true hc5
      rw [if_pos hc5] at h
      simp only [go_sem, seval, hc5d]
      refine hZ _ (pp (hJ4 _ false ?_ h))
      refine weak_roots ?_ ?_ <;> repeat' first | exact xn | exact rn | refine xc ?_ ?_ | refine rc ?_ ?_ ?_ | rfl | simp only [go_sem, seval, Bool.or_self, List.length_set, Int.natCast_zero, Int.cast_ofNat_Int, hc3, hc5d]
    have hc5d := decide_eq_false hc5
    rw [if_neg hc5] at h
    simp only [go_sem, seval, hc5d]
    refine sw (RX_guard_ndec rfl) (fun hc6 => ?_) (fun hc6 => ?_)
    · have hc6d := decide_eq_true hc6
      rw [if_pos hc6] at h
      simp only [go_sem, seval, hc6d]
      refine hZ _ (pp (hJ4 _ false ?_ h))
      refine weak_roots ?_ ?_ <;> repeat' first | exact xn | exact rn | refine xc ?_ ?_ | refine rc ?_ ?_ ?_ | rfl | simp only [go_sem, seval, Bool.or_self, List.length_set, Int.natCast_zero, Int.cast_ofNat_Int, hc3, hc5d, hc6d]
    have hc6d := decide_eq_false hc6
    rw [if_neg hc6] at h
    simp only [go_sem, seval, hc6d]
    refine RX_guard_ndec rfl (fun hc7 => ?_) (fun hc7 => ?_)
    · have hc7d := decide_eq_false hc7
      rw [if_neg hc7] at h
      simp only [go_sem, seval, hc7d]
      refine hZ _ (pp (hJ4 _ true ?_ h))
      refine weak_roots ?_ ?_ <;> repeat' first | exact xn | exact rn | refine xc ?_ ?_ | refine rc ?_ ?_ ?_ | rfl | simp only [go_sem, seval, Bool.or_self, List.length_set, Int.natCast_zero, Int.cast_ofNat_Int, hc3, hc5d, hc6d, hc7d]
    have hc7d := decide_eq_true hc7
    rw [if_pos hc7] at h
    simp only [go_sem, seval, hc7d]
    refine hZ _ (pp (hJ4 _ (!decide (a0.N = 1)) ?_ h))
    refine weak_roots ?_ ?_ <;> repeat' first | exact xn | exact rn | refine xc ?_ ?_ | refine rc ?_ ?_ ?_ | rfl | simp only [go_sem, seval, Bool.or_self, List.length_set, Int.natCast_zero, Int.cast_ofNat_Int, hc3, hc5d, hc6d, hc7d]
  intro c12 h
  unfold wire_ValidValue_J5 at h
  refine Wk_cond_bool rfl (fun hc8 => ?_) (fun hc8 => ?_)
  · rw [if_pos hc8] at h
    refine Wk_seq (Wk_regionZ fun Z hZ => ?_)
    simp only [go_sem, seval, hc8]
    refine hZ _ (pp (Wk_ret (pp ?_)))
    cases h
    simp only [go_sem, seval]
    exact ⟨_, rfl, RokI.h, PureI.h⟩
  rw [if_neg (ne_true_of_eq_false hc8)] at h
  apply Wk_join1 (fun (c17 : Bool) => ⟨tab 86 (updT (updT deadT 1 (.pref 1 [] 0 0)) 32 (.val (.bool c17))), (upd RZ 1 (.sl true none 5 (some 1) [Value.row a0]))⟩)
  · intro hJ9
    apply Wk_join1 (fun (c18 : Bool) => ⟨tab 86 (updT (updT deadT 1 (.pref 1 [] 0 0)) 32 (.val (.bool c18))), (upd RZ 1 (.sl true none 5 (some 1) [Value.row a0]))⟩)
    · intro hJ10
      refine Wk_regionZ fun Z hZ => ?_
      simp only [go_sem, seval, hc8]
      refine RX_guard_nbool rfl (fun hc11 => ?_) (fun hc11 => ?_)
      · rw [if_neg (ne_true_of_eq_false hc11)] at h
        simp only [go_sem, seval, hc11]
        refine hZ _ (pp (hJ10 _ (!decide (a0.Kind = 3)) ?_ h))
        refine weak_roots ?_ ?_ <;> repeat' first | exact xn | exact rn | refine xc ?_ ?_ | refine rc ?_ ?_ ?_ | rfl | simp only [go_sem, seval, Bool.or_self, List.length_set, Int.natCast_zero, Int.cast_ofNat_Int, hc3, hc8, hc11]
      rw [if_pos hc11] at h
      simp only [go_sem, seval, hc11]
      refine hZ _ (pp (hJ10 _ false ?_ h))
      refine weak_roots ?_ ?_ <;> repeat' first | exact xn | exact rn | refine xc ?_ ?_ | refine rc ?_ ?_ ?_ | rfl | simp only [go_sem, seval, Bool.or_self, List.length_set, Int.natCast_zero, Int.cast_ofNat_Int, hc3, hc8, hc11]
    intro c18 h
    unfold wire_ValidValue_J3 at h
    refine Wk_cond_bool rfl (fun hc12 => ?_) (fun hc12 => ?_)
    · rw [if_pos hc12] at h
      refine Wk_skip (pp (hJ9 _ true ?_ h))
      refine weak_roots ?_ ?_ <;> repeat' first | exact xn | exact rn | refine xc ?_ ?_ | refine rc ?_ ?_ ?_ | rfl | simp only [go_sem, seval, hc12]
    rw [if_neg (ne_true_of_eq_false hc12)] at h
    apply Wk_join1 (fun (c19 : Bool) => ⟨tab 86 (updT (updT deadT 1 (.pref 1 [] 0 0)) 32 (.val (.bool c19))), (upd RZ 1 (.sl true none 5 (some 1) [Value.row a0]))⟩)
    · intro hJ13
      refine Wk_regionZ fun Z hZ => ?_
      simp only [go_sem, seval, hc12]
      refine RX_guard_dec rfl (fun hc14 => ?_) (fun hc14 => ?_)
      · have hc14d := decide_eq_true hc14
        rw [if_pos hc14] at h
        simp only [go_sem, seval, hc14d]
        refine hZ _ (pp (hJ13 _ (!decide (a0.Kind = 4)) ?_ h))
        refine weak_roots ?_ ?_ <;> repeat' first | exact xn | exact rn | refine xc ?_ ?_ | refine rc ?_ ?_ ?_ | rfl | simp only [go_sem, seval, Bool.or_self, List.length_set, Int.natCast_zero, Int.cast_ofNat_Int, hc3, hc8, hc12, hc14d]
      have hc14d := decide_eq_false hc14
      rw [if_neg hc14] at h
      simp only [go_sem, seval, hc14d]
      refine hZ _ (pp (hJ13 _ false ?_ h))
      refine weak_roots ?_ ?_ <;> repeat' first | exact xn | exact rn | refine xc ?_ ?_ | refine rc ?_ ?_ ?_ | rfl | simp only [go_sem, seval, Bool.or_self, List.length_set, Int.natCast_zero, Int.cast_ofNat_Int, hc3, hc8, hc12, hc14d]
    intro c19 h
    unfold wire_ValidValue_J2 at h
    refine Wk_cond_bool rfl (fun hc15 => ?_) (fun hc15 => ?_)
    · rw [if_pos hc15] at h
      refine Wk_skip (pp (hJ9 _ true ?_ h))
      refine weak_roots ?_ ?_ <;> repeat' first | exact xn | exact rn | refine xc ?_ ?_ | refine rc ?_ ?_ ?_ | rfl | simp only [go_sem, seval, hc15]
    rw [if_neg (ne_true_of_eq_false hc15)] at h
    refine Wk_regionZ fun Z hZ => ?_
    simp only [go_sem, seval, hc15]
    refine RX_guard_dec rfl (fun hc16 => ?_) (fun hc16 => ?_)
    · have hc16d := decide_eq_true hc16
      rw [if_pos hc16] at h
      simp only [go_sem, seval, hc16d]
      refine hZ _ (pp (hJ9 _ (!decide (a0.Kind = 5)) ?_ h))
      refine weak_roots ?_ ?_ <;> repeat' first | exact xn | exact rn | refine xc ?_ ?_ | refine rc ?_ ?_ ?_ | rfl | simp only [go_sem, seval, Bool.or_self, List.length_set, Int.natCast_zero, Int.cast_ofNat_Int, hc3, hc8, hc12, hc15, hc16d]
    have hc16d := decide_eq_false hc16
    rw [if_neg hc16] at h
    simp only [go_sem, seval, hc16d]
    refine hZ _ (pp (hJ9 _ false ?_ h))
    refine weak_roots ?_ ?_ <;> repeat' first | exact xn | exact rn | refine xc ?_ ?_ | refine rc ?_ ?_ ?_ | rfl | simp only [go_sem, seval, Bool.or_self, List.length_set, Int.natCast_zero, Int.cast_ofNat_Int, hc3, hc8, hc12, hc15, hc16d]
  intro c17 h
  unfold wire_ValidValue_J4 at h
  refine Wk_cond_bool rfl (fun hc17 => ?_) (fun hc17 => ?_)
  · rw [if_pos hc17] at h
    refine Wk_seq (Wk_regionZ fun Z hZ => ?_)
    simp only [go_sem, seval, hc17]
    refine hZ _ (pp (Wk_ret (pp ?_)))
    cases h
    simp only [go_sem, seval]
    exact ⟨_, rfl, RokI.h, PureI.h⟩
  rw [if_neg (ne_true_of_eq_false hc17)] at h
  refine Wk_skip (pp ?_)
  unfold wire_ValidValue_J8 at h
  refine Wk_seq ?_
  apply Wk_join1 (fun (c22 : Bool) => ⟨tab 86 (updT (updT deadT 1 (.pref 1 [] 0 0)) 74 (.val (.bool c22))), (upd RZ 1 (.sl true none 5 (some 1) [Value.row a0]))⟩)
  · intro hJ18
    refine Wk_regionZ fun Z hZ => ?_
    simp only [go_sem, seval, hc17]
    refine RX_guard_dec rfl (fun hc19 => ?_) (fun hc19 => ?_)
    · have hc19d := decide_eq_true hc19
      rw [if_pos hc19] at h
      simp only [go_sem, seval, hc19d]
      refine hZ _ (pp (hJ18 _ true ?_ h))
      refine weak_roots ?_ ?_ <;> repeat' first | exact xn | exact rn | refine xc ?_ ?_ | refine rc ?_ ?_ ?_ | rfl | simp only [go_sem, seval, Bool.or_self, List.length_set, Int.natCast_zero, Int.cast_ofNat_Int, hc3, hc8, hc17, hc19d]
    have hc19d := decide_eq_false hc19
    rw [if_neg hc19] at h
    simp only [go_sem, seval, hc19d]
    refine RX_guard_dec rfl (fun hc20 => ?_) (fun hc20 => ?_)
    · have hc20d := decide_eq_true hc20
      rw [if_pos hc20] at h
      simp only [go_sem, seval, hc20d]
      refine hZ _ (pp (hJ18 _ true ?_ h))
      refine weak_roots ?_ ?_ <;> repeat' first | exact xn | exact rn | refine xc ?_ ?_ | refine rc ?_ ?_ ?_ | rfl | simp only [go_sem, seval, Bool.or_self, List.length_set, Int.natCast_zero, Int.cast_ofNat_Int, hc3, hc8, hc17, hc19d, hc20d]
    have hc20d := decide_eq_false hc20
    rw [if_neg hc20] at h
    simp only [go_sem, seval, hc20d]
    refine hZ _ (pp (hJ18 _ (decide (16 < ((a0.L.length : Nat) : Int))) ?_ h))
    refine weak_roots ?_ ?_ <;> repeat' first | exact xn | exact rn | refine xc ?_ ?_ | refine rc ?_ ?_ ?_ | rfl | simp only [go_sem, seval, Bool.or_self, List.length_set, Int.natCast_zero, Int.cast_ofNat_Int, hc3, hc8, hc17, hc19d, hc20d]
  intro c22 h
  unfold wire_ValidValue_J6 at h
  refine Wk_cond_bool rfl (fun hc21 => ?_) (fun hc21 => ?_)
  · rw [if_pos hc21] at h
    refine Wk_seq (Wk_regionZ fun Z hZ => ?_)
    simp only [go_sem, seval, hc21]
    refine hZ _ (pp (Wk_ret (pp ?_)))
    cases h
    simp only [go_sem, seval]
    exact ⟨_, rfl, RokI.h, PureI.h⟩
  rw [if_neg (ne_true_of_eq_false hc21)] at h
  refine Wk_skip (pp ?_)
  unfold wire_ValidValue_J7 at h
  refine Wk_seq (Wk_seq (Wk_regionZ fun Z hZ => ?_))
  simp only [go_sem, seval, hc21]
  refine hZ _ (pp (Wk_block (Wk_real fun hreal23 => ?_)))
  have hl22 := hreal23.lenT 76 (by decide) (by simp only [go_sem, seval]; rfl)
  rw [List.length_map] at hl22
  refine Wk_range (fun (v17 : Nat) (b : Unit) => ⟨tab 86 (updT (updT (updT deadT 76 (.sl false none 1 none (a0.L.map rowS))) 77 (.val (.int .i64 ((a0.L.length : Nat) : Int)))) 78 (.val (.int .i64 ((v17 : Nat) : Int)))), RZ⟩) () h ?_ ?_
  · refine weak_roots ?_ ?_ <;> repeat' first | exact xn | exact rn | refine xc ?_ ?_ | refine rc ?_ ?_ ?_ | rfl | simp only [go_sem, seval, Bool.or_self, List.length_set, Int.natCast_zero, Int.cast_ofNat_Int, hc3, hc8, hc17, hc21]
  rintro v17 ⟨⟩ hi24 h -
  rcases (drop_cases a0.L v17 hi24).symm with ⟨hi24', _, hd27⟩ | ⟨x20, hi24', hx25, hd27⟩
  · rw [hd27] at h
    simp only [wire_ValidValue_L1] at h
    refine Wk_seq (Wk_regionZ fun Z hZ => ?_)
    simp only [go_sem, seval, hi24']
    refine hZ _ (pp (Wk_seq ?_))
    try simp only [Int.ofNat_lt, hi24', if_true, if_false] at h
    refine Wk_cond_f rfl (Wk_exit (pp (Wk_seq (Wk_regionZ fun Z hZ => ?_))))
    simp only [go_sem, seval]
    refine hZ _ (pp (Wk_ret (pp ?_)))
    cases h
    simp only [go_sem, seval]
    exact ⟨_, rfl, RokI.h, PureI.h⟩
  rw [hd27] at h
  simp only [wire_ValidValue_L1] at h
  have hw26 := wrap_succ hi24' hl22
  refine Wk_seq (Wk_regionZ fun Z hZ => ?_)
  simp only [go_sem, seval, hi24']
  refine hZ _ (pp (Wk_seq ?_))
  try simp only [Int.ofNat_lt, hi24', if_true, if_false] at h
  refine Wk_cond_t rfl (Wk_skip (pp (Wk_seq (Wk_block (Wk_seq ?_)))))
  try rw [gx_nat hx25] at h
  refine Wk_regionZ fun Z hZ => ?_
  simp only [go_sem, seval, hx25, hi24']
  refine hZ _ (pp (Wk_seq (Wk_regionZ fun Z hZ => ?_)))
  simp only [go_sem, seval]
  refine hZ _ (pp (Wk_cond_dec rfl (fun hc28 => ?_) (fun hc28 => ?_)))
  · have hc28d := decide_eq_true hc28
    rw [if_pos hc28] at h
    refine Wk_seq (Wk_regionZ fun Z hZ => ?_)
    simp only [go_sem, seval, hc28d]
    refine hZ _ (pp (Wk_ret (pp ?_)))
    cases h
    simp only [go_sem, seval]
    exact ⟨_, rfl, RokI.h, PureI.h⟩
  have hc28d := decide_eq_false hc28
  rw [if_neg hc28] at h
  refine Wk_skip (pp (Wk_regionZ fun Z hZ => ?_))
  simp only [go_sem, seval, hw26, hc28d]
  refine hZ _ (pp ?_)
  first | refine ⟨(), ?_, h⟩ | refine ⟨hi24', (), ?_, h⟩
  refine weak_roots ?_ ?_ <;> repeat' first | exact xn | exact rn | refine xc ?_ ?_ | refine rc ?_ ?_ ?_ | rfl | simp only [go_sem, seval, Bool.or_self, List.length_set, Int.natCast_zero, Int.cast_ofNat_Int, hc3, hc8, hc17, hc21, hx25, hi24', hw26, hc28d]
def fs_wire_ValidValue (N : Nat) : FnS := ⟨[], true, fn1 Value.decA fun q0 => (wire_ValidValue N q0).map fun r => .val (.bool r), false⟩
attribute [go_sem] fs_wire_ValidValue
theorem fs_wire_ValidValue_ok (N : Nat) : FSOk Try.prog 67 (fs_wire_ValidValue N) := ok1 (fun q0 r h => by
  obtain ⟨r', hr, rfl⟩ := Option.map_eq_some_iff.1 h
  exact w_wire_ValidValue N q0 r' hr) (Value.decA_le)


noncomputable def G_turns_validArgs_1 (N d f : Nat) : Option FnS := glist [(8, 67, fs_wire_ValidValue N)] d f
attribute [go_sem] G_turns_validArgs_1
theorem w_turns_validArgs_1 (N : Nat) (a0 : Value) (r : Bool) (h : turns_validArgs_1 N a0 = some r) : Con Try.prog 90 [] true [.agg (Value.row a0)] (.val (.bool r)) := by
  refine fun_ok4 (G := (G_turns_validArgs_1 N)) Try.func90 rfl (by decide) (by kernel_rfl) (gc 8 (fs_wire_ValidValue_ok N) gn) [] mix (Nat.le_of_ble_eq_true rfl) ?_
  simp only [Try.f90]
  unfold turns_validArgs_1 at h
  refine Wk_seq (Wk_regionZ fun Z hZ => ?_)
  simp only [go_sem, seval]
  refine hZ _ (pp (Wk_seq (Wk_regionZ fun Z hZ => ?_)))
  simp only [go_sem, seval]
  refine RX_guard_dec rfl (fun hc1 => ?_) (fun hc1 => ?_)
  · have hc1d := decide_eq_true hc1
    rw [if_pos hc1] at h
    simp only [go_sem, seval, hc1d]
    refine hZ _ (pp (Wk_ret (pp ?_)))
    cases h
    simp only [go_sem, seval]
    exact ⟨_, rfl, RokI.h, PureI.h⟩
  have hc1d := decide_eq_false hc1
  rw [if_neg hc1] at h
  obtain ⟨r1, hr2, h⟩ := Option.bind_eq_some_iff.1 h
  simp only [go_sem, seval, hc1d, hr2]
  refine hZ _ (pp (Wk_ret (pp ?_)))
  cases h
  simp only [go_sem, seval]
  exact ⟨_, rfl, RokI.h, PureI.h⟩
def fs_turns_validArgs_1 (N : Nat) : FnS := ⟨[], true, fn1 Value.decA fun q0 => (turns_validArgs_1 N q0).map fun r => .val (.bool r), false⟩
attribute [go_sem] fs_turns_validArgs_1
theorem fs_turns_validArgs_1_ok (N : Nat) : FSOk Try.prog 90 (fs_turns_validArgs_1 N) := ok1 (fun q0 r h => by
  obtain ⟨r', hr, rfl⟩ := Option.map_eq_some_iff.1 h
  exact w_turns_validArgs_1 N q0 r' hr) (Value.decA_le)


noncomputable def G_slices_IndexFunc_Value_turns_validArgs_1 (N d f : Nat) : Option FnS := glist [(16, 90, fs_turns_validArgs_1 N)] d f
attribute [go_sem] G_slices_IndexFunc_Value_turns_validArgs_1
theorem w_slices_IndexFunc_Value_turns_validArgs_1 (N : Nat) (a0 : (List Value)) (r : Int) (h : slices_IndexFunc_Value_turns_validArgs_1 N a0 = some r) : Con Try.prog 100 [] true [.sl false none 5 none (a0.map Value.row), .clo 90 []] (.val (.int .i64 r)) := by
  refine fun_ok4 (G := (G_slices_IndexFunc_Value_turns_validArgs_1 N)) Try.func100 rfl (by decide) (by kernel_rfl) (gc 16 (fs_turns_validArgs_1_ok N) gn) [] mix (Nat.le_of_ble_eq_true rfl) ?_
  simp only [Try.f100]
  unfold slices_IndexFunc_Value_turns_validArgs_1 at h
  refine Wk_seq (Wk_regionZ fun Z hZ => ?_)
  simp only [go_sem, seval]
  refine hZ _ (pp (Wk_seq (Wk_seq (Wk_regionZ fun Z hZ => ?_))))
  simp only [go_sem, seval]
  refine hZ _ (pp (Wk_block (Wk_real fun hreal2 => ?_)))
  have hl1 := hreal2.lenT 0 (by decide) (by simp only [go_sem, seval]; rfl)
  rw [List.length_map] at hl1
  refine Wk_range (fun (v2 : Nat) (b : Unit) => ⟨tab 19 (updT (updT (updT (updT deadT 0 (.sl false none 5 none (a0.map Value.row))) 1 (.clo 90 [])) 7 (.val (.int .i64 ((a0.length : Nat) : Int)))) 8 (.val (.int .i64 ((v2 : Nat) : Int)))), RZ⟩) () h ?_ ?_
  · refine weak_roots ?_ ?_ <;> repeat' first | exact xn | exact rn | refine xc ?_ ?_ | refine rc ?_ ?_ ?_ | rfl
  rintro v2 ⟨⟩ hi3 h -
  rcases (drop_cases a0 v2 hi3).symm with ⟨hi3', _, hd6⟩ | ⟨x5, hi3', hx4, hd6⟩
  · rw [hd6] at h
    simp only [slices_IndexFunc_Value_turns_validArgs_1_L1] at h
    refine Wk_seq (Wk_regionZ fun Z hZ => ?_)
    simp only [go_sem, seval, hi3']
    refine hZ _ (pp (Wk_seq ?_))
    try simp only [Int.ofNat_lt, hi3', if_true, if_false] at h
    refine Wk_cond_f rfl (Wk_exit (pp (Wk_seq (Wk_regionZ fun Z hZ => ?_))))
    simp only [go_sem, seval]
    refine hZ _ (pp (Wk_ret (pp ?_)))
    cases h
    simp only [go_sem, seval]
    exact ⟨_, rfl, RokI.h, PureI.h⟩
  rw [hd6] at h
  simp only [slices_IndexFunc_Value_turns_validArgs_1_L1] at h
  have hw5 := wrap_succ hi3' hl1
  refine Wk_seq (Wk_regionZ fun Z hZ => ?_)
  simp only [go_sem, seval, hi3']
  refine hZ _ (pp (Wk_seq ?_))
  try simp only [Int.ofNat_lt, hi3', if_true, if_false] at h
  refine Wk_cond_t rfl (Wk_skip (pp (Wk_seq (Wk_block (Wk_seq (Wk_regionZ fun Z hZ => ?_))))))
  simp only [go_sem, seval]
  refine hZ _ (pp (Wk_seq ?_))
  try rw [gx_nat hx4] at h
  obtain ⟨r1, hr7, h⟩ := Option.bind_eq_some_iff.1 h
  refine Wk_regionZ fun Z hZ => ?_
  simp only [go_sem, seval, hx4, hi3', hr7]
  refine hZ _ (pp (Wk_cond_bool rfl (fun hc8 => ?_) (fun hc8 => ?_)))
  · rw [if_pos hc8] at h
    refine Wk_seq (Wk_regionZ fun Z hZ => ?_)
    simp only [go_sem, seval, hc8]
    refine hZ _ (pp (Wk_ret (pp ?_)))
    cases h
    simp only [go_sem, seval]
    exact ⟨_, rfl, RokI.h, PureI.h⟩
  rw [if_neg (ne_true_of_eq_false hc8)] at h
  refine Wk_skip (pp (Wk_regionZ fun Z hZ => ?_))
  simp only [go_sem, seval, hw5, hc8]
  refine hZ _ (pp ?_)
  first | refine ⟨(), ?_, h⟩ | refine ⟨hi3', (), ?_, h⟩
  refine weak_roots ?_ ?_ <;> repeat' first | exact xn | exact rn | refine xc ?_ ?_ | refine rc ?_ ?_ ?_ | rfl
def fs_slices_IndexFunc_Value_turns_validArgs_1 (N : Nat) : FnS := { own := [], pure := true, fn := fun cs => match cs with
  | [c0, .clo 90 []] => ((decL 5 Value.dec) c0).bind fun qc0 => (slices_IndexFunc_Value_turns_validArgs_1 N qc0).map fun r => .val (.int .i64 r)
  | _ => none }
attribute [go_sem] fs_slices_IndexFunc_Value_turns_validArgs_1
theorem fs_slices_IndexFunc_Value_turns_validArgs_1_ok (N : Nat) : FSOk Try.prog 100 (fs_slices_IndexFunc_Value_turns_validArgs_1 N) := by
  refine ⟨fun cs r h => ?_, fun h => by cases h⟩
  simp only [fs_slices_IndexFunc_Value_turns_validArgs_1] at h
  split at h
  · simp only [Option.bind_eq_some_iff, Option.map_eq_some_iff] at h
    obtain ⟨q0, h0, r', hr, rfl⟩ := h
    exact ((w_slices_IndexFunc_Value_turns_validArgs_1 N q0 r' hr).args (LeL.cons (decL_le Value.dec_le h0) (LeL.cons (Le.clo (LeL.nil)) (LeL.nil))))
  · cases h


noncomputable def G_slices_ContainsFunc_Value_turns_validArgs_1 (N d f : Nat) : Option FnS := glist [(7, 100, fs_slices_IndexFunc_Value_turns_validArgs_1 N)] d f
attribute [go_sem] G_slices_ContainsFunc_Value_turns_validArgs_1
theorem w_slices_ContainsFunc_Value_turns_validArgs_1 (N : Nat) (a0 : (List Value)) (r : Bool) (h : slices_ContainsFunc_Value_turns_validArgs_1 N a0 = some r) : Con Try.prog 89 [] true [.sl false none 5 none (a0.map Value.row), .clo 90 []] (.val (.bool r)) := by
  refine fun_ok4 (G := (G_slices_ContainsFunc_Value_turns_validArgs_1 N)) Try.func89 rfl (by decide) (by kernel_rfl) (gc 7 (fs_slices_IndexFunc_Value_turns_validArgs_1_ok N) gn) [] mix (Nat.le_of_ble_eq_true rfl) ?_
  simp only [Try.f89]
  unfold slices_ContainsFunc_Value_turns_validArgs_1 at h
  refine Wk_seq (Wk_regionZ fun Z hZ => ?_)
  simp only [go_sem, seval]
  refine hZ _ (pp (Wk_seq ?_))
  obtain ⟨r1, hr1, h⟩ := Option.bind_eq_some_iff.1 h
  refine Wk_regionZ fun Z hZ => ?_
  simp only [go_sem, seval, hr1]
  refine hZ _ (pp (Wk_ret (pp ?_)))
  cases h
  simp only [go_sem, seval]
  exact ⟨_, rfl, RokI.h, PureI.h⟩
def fs_slices_ContainsFunc_Value_turns_validArgs_1 (N : Nat) : FnS := { own := [], pure := true, fn := fun cs => match cs with
  | [c0, .clo 90 []] => ((decL 5 Value.dec) c0).bind fun qc0 => (slices_ContainsFunc_Value_turns_validArgs_1 N qc0).map fun r => .val (.bool r)
  | _ => none }
attribute [go_sem] fs_slices_ContainsFunc_Value_turns_validArgs_1
theorem fs_slices_ContainsFunc_Value_turns_validArgs_1_ok (N : Nat) : FSOk Try.prog 89 (fs_slices_ContainsFunc_Value_turns_validArgs_1 N) := by
  refine ⟨fun cs r h => ?_, fun h => by cases h⟩
  simp only [fs_slices_ContainsFunc_Value_turns_validArgs_1] at h
  split at h
  · simp only [Option.bind_eq_some_iff, Option.map_eq_some_iff] at h
    obtain ⟨q0, h0, r', hr, rfl⟩ := h
    exact ((w_slices_ContainsFunc_Value_turns_validArgs_1 N q0 r' hr).args (LeL.cons (decL_le Value.dec_le h0) (LeL.cons (Le.clo (LeL.nil)) (LeL.nil))))
  · cases h


noncomputable def G_turns_validArgs (N d f : Nat) : Option FnS := glist [(8, 89, fs_slices_ContainsFunc_Value_turns_validArgs_1 N)] d f
attribute [go_sem] G_turns_validArgs
theorem w_turns_validArgs (N : Nat) (a0 : (List Value)) (r : Bool) (h : turns_validArgs N a0 = some r) : Con Try.prog 61 [] true [.sl false none 5 none (a0.map Value.row)] (.val (.bool r)) := by
  refine fun_ok4 (G := (G_turns_validArgs N)) Try.func61 rfl (by decide) (by kernel_rfl) (gc 8 (fs_slices_ContainsFunc_Value_turns_validArgs_1_ok N) gn) [] mix (Nat.le_of_ble_eq_true rfl) ?_
  simp only [Try.f61]
  unfold turns_validArgs at h
  refine Wk_seq (Wk_regionZ fun Z hZ => ?_)
  simp only [go_sem, seval]
  refine hZ _ (pp (Wk_seq (Wk_regionZ fun Z hZ => ?_)))
  simp only [go_sem, seval]
  refine RX_guard_dec rfl (fun hc1 => ?_) (fun hc1 => ?_)
  · have hc1d := decide_eq_true hc1
    rw [if_pos hc1] at h
    obtain ⟨r1, hr2, h⟩ := Option.bind_eq_some_iff.1 h
    simp only [go_sem, seval, hc1d, hr2]
    refine hZ _ (pp (Wk_ret (pp ?_)))
    cases h
    simp only [go_sem, seval]
    exact ⟨_, rfl, RokI.h, PureI.h⟩
  have hc1d := decide_eq_false hc1
  rw [if_neg hc1] at h
  simp only [go_sem, seval, hc1d]
  refine hZ _ (pp (Wk_ret (pp ?_)))
  cases h
  simp only [go_sem, seval]
  exact ⟨_, rfl, RokI.h, PureI.h⟩
def fs_turns_validArgs (N : Nat) : FnS := ⟨[], true, fn1 (decL 5 Value.dec) fun q0 => (turns_validArgs N q0).map fun r => .val (.bool r), false⟩
attribute [go_sem] fs_turns_validArgs
theorem fs_turns_validArgs_ok (N : Nat) : FSOk Try.prog 61 (fs_turns_validArgs N) := ok1 (fun q0 r h => by
  obtain ⟨r', hr, rfl⟩ := Option.map_eq_some_iff.1 h
  exact w_turns_validArgs N q0 r' hr) (fun h => decL_le Value.dec_le h)


noncomputable def G_turns_ValidRequest_1 (N d f : Nat) : Option FnS := glist [(4, 54, fs_directory_ValidRef N)] d f
attribute [go_sem] G_turns_ValidRequest_1
theorem w_turns_ValidRequest_1 (N : Nat) (a0 : Ref) (r : Bool) (h : turns_ValidRequest_1 N a0 = some r) : Con Try.prog 63 [] true [.agg [.val (.string a0.Type_), .val (.string a0.Key)]] (.val (.bool r)) := by
  refine fun_ok4 (G := (G_turns_ValidRequest_1 N)) Try.func63 rfl (by decide) (by kernel_rfl) (gc 4 (fs_directory_ValidRef_ok N) gn) [] mix (Nat.le_of_ble_eq_true rfl) ?_
  simp only [Try.f63]
  unfold turns_ValidRequest_1 at h
  refine Wk_seq (Wk_regionZ fun Z hZ => ?_)
  simp only [go_sem, seval]
  refine hZ _ (pp (Wk_seq ?_))
  obtain ⟨r1, hr1, h⟩ := Option.bind_eq_some_iff.1 h
  refine Wk_regionZ fun Z hZ => ?_
  simp only [go_sem, seval, hr1]
  refine hZ _ (pp (Wk_ret (pp ?_)))
  cases h
  simp only [go_sem, seval]
  exact ⟨_, rfl, RokI.h, PureI.h⟩
def fs_turns_ValidRequest_1 (N : Nat) : FnS := ⟨[], true, fn1 Ref.decA fun q0 => (turns_ValidRequest_1 N q0).map fun r => .val (.bool r), false⟩
attribute [go_sem] fs_turns_ValidRequest_1
theorem fs_turns_ValidRequest_1_ok (N : Nat) : FSOk Try.prog 63 (fs_turns_ValidRequest_1 N) := ok1 (fun q0 r h => by
  obtain ⟨r', hr, rfl⟩ := Option.map_eq_some_iff.1 h
  exact w_turns_ValidRequest_1 N q0 r' hr) (Ref.decA_le)


noncomputable def G_slices_IndexFunc_Ref_turns_ValidRequest_1 (N d f : Nat) : Option FnS := glist [(16, 63, fs_turns_ValidRequest_1 N)] d f
attribute [go_sem] G_slices_IndexFunc_Ref_turns_ValidRequest_1
theorem w_slices_IndexFunc_Ref_turns_ValidRequest_1 (N : Nat) (a0 : (List Ref)) (r : Int) (h : slices_IndexFunc_Ref_turns_ValidRequest_1 N a0 = some r) : Con Try.prog 91 [] true [.sl false none 2 none (a0.map Ref.row), .clo 63 []] (.val (.int .i64 r)) := by
  refine fun_ok4 (G := (G_slices_IndexFunc_Ref_turns_ValidRequest_1 N)) Try.func91 rfl (by decide) (by kernel_rfl) (gc 16 (fs_turns_ValidRequest_1_ok N) gn) [] mix (Nat.le_of_ble_eq_true rfl) ?_
  simp only [Try.f91]
  unfold slices_IndexFunc_Ref_turns_ValidRequest_1 at h
  refine Wk_seq (Wk_regionZ fun Z hZ => ?_)
  simp only [go_sem, seval]
  refine hZ _ (pp (Wk_seq (Wk_seq (Wk_regionZ fun Z hZ => ?_))))
  simp only [go_sem, seval]
  refine hZ _ (pp (Wk_block (Wk_real fun hreal2 => ?_)))
  have hl1 := hreal2.lenT 0 (by decide) (by simp only [go_sem, seval]; rfl)
  rw [List.length_map] at hl1
  refine Wk_range (fun (v2 : Nat) (b : Unit) => ⟨tab 19 (updT (updT (updT (updT deadT 0 (.sl false none 2 none (a0.map Ref.row))) 1 (.clo 63 [])) 7 (.val (.int .i64 ((a0.length : Nat) : Int)))) 8 (.val (.int .i64 ((v2 : Nat) : Int)))), RZ⟩) () h ?_ ?_
  · refine weak_roots ?_ ?_ <;> repeat' first | exact xn | exact rn | refine xc ?_ ?_ | refine rc ?_ ?_ ?_ | rfl
  rintro v2 ⟨⟩ hi3 h -
  rcases (drop_cases a0 v2 hi3).symm with ⟨hi3', _, hd6⟩ | ⟨x5, hi3', hx4, hd6⟩
  · rw [hd6] at h
    simp only [slices_IndexFunc_Ref_turns_ValidRequest_1_L1] at h
    refine Wk_seq (Wk_regionZ fun Z hZ => ?_)
    simp only [go_sem, seval, hi3']
    refine hZ _ (pp (Wk_seq ?_))
    try simp only [Int.ofNat_lt, hi3', if_true, if_false] at h
    refine Wk_cond_f rfl (Wk_exit (pp (Wk_seq (Wk_regionZ fun Z hZ => ?_))))
    simp only [go_sem, seval]
    refine hZ _ (pp (Wk_ret (pp ?_)))
    cases h
    simp only [go_sem, seval]
    exact ⟨_, rfl, RokI.h, PureI.h⟩
  rw [hd6] at h
  simp only [slices_IndexFunc_Ref_turns_ValidRequest_1_L1] at h
  have hw5 := wrap_succ hi3' hl1
  refine Wk_seq (Wk_regionZ fun Z hZ => ?_)
  simp only [go_sem, seval, hi3']
  refine hZ _ (pp (Wk_seq ?_))
  try simp only [Int.ofNat_lt, hi3', if_true, if_false] at h
  refine Wk_cond_t rfl (Wk_skip (pp (Wk_seq (Wk_block (Wk_seq (Wk_regionZ fun Z hZ => ?_))))))
  simp only [go_sem, seval]
  refine hZ _ (pp (Wk_seq ?_))
  try rw [gx_nat hx4] at h
  obtain ⟨r1, hr7, h⟩ := Option.bind_eq_some_iff.1 h
  refine Wk_regionZ fun Z hZ => ?_
  simp only [go_sem, seval, hx4, hi3', hr7]
  refine hZ _ (pp (Wk_cond_bool rfl (fun hc8 => ?_) (fun hc8 => ?_)))
  · rw [if_pos hc8] at h
    refine Wk_seq (Wk_regionZ fun Z hZ => ?_)
    simp only [go_sem, seval, hc8]
    refine hZ _ (pp (Wk_ret (pp ?_)))
    cases h
    simp only [go_sem, seval]
    exact ⟨_, rfl, RokI.h, PureI.h⟩
  rw [if_neg (ne_true_of_eq_false hc8)] at h
  refine Wk_skip (pp (Wk_regionZ fun Z hZ => ?_))
  simp only [go_sem, seval, hw5, hc8]
  refine hZ _ (pp ?_)
  first | refine ⟨(), ?_, h⟩ | refine ⟨hi3', (), ?_, h⟩
  refine weak_roots ?_ ?_ <;> repeat' first | exact xn | exact rn | refine xc ?_ ?_ | refine rc ?_ ?_ ?_ | rfl
def fs_slices_IndexFunc_Ref_turns_ValidRequest_1 (N : Nat) : FnS := { own := [], pure := true, fn := fun cs => match cs with
  | [c0, .clo 63 []] => ((decL 2 Ref.dec) c0).bind fun qc0 => (slices_IndexFunc_Ref_turns_ValidRequest_1 N qc0).map fun r => .val (.int .i64 r)
  | _ => none }
attribute [go_sem] fs_slices_IndexFunc_Ref_turns_ValidRequest_1
theorem fs_slices_IndexFunc_Ref_turns_ValidRequest_1_ok (N : Nat) : FSOk Try.prog 91 (fs_slices_IndexFunc_Ref_turns_ValidRequest_1 N) := by
  refine ⟨fun cs r h => ?_, fun h => by cases h⟩
  simp only [fs_slices_IndexFunc_Ref_turns_ValidRequest_1] at h
  split at h
  · simp only [Option.bind_eq_some_iff, Option.map_eq_some_iff] at h
    obtain ⟨q0, h0, r', hr, rfl⟩ := h
    exact ((w_slices_IndexFunc_Ref_turns_ValidRequest_1 N q0 r' hr).args (LeL.cons (decL_le Ref.dec_le h0) (LeL.cons (Le.clo (LeL.nil)) (LeL.nil))))
  · cases h


noncomputable def G_slices_ContainsFunc_Ref_turns_ValidRequest_1 (N d f : Nat) : Option FnS := glist [(7, 91, fs_slices_IndexFunc_Ref_turns_ValidRequest_1 N)] d f
attribute [go_sem] G_slices_ContainsFunc_Ref_turns_ValidRequest_1
theorem w_slices_ContainsFunc_Ref_turns_ValidRequest_1 (N : Nat) (a0 : (List Ref)) (r : Bool) (h : slices_ContainsFunc_Ref_turns_ValidRequest_1 N a0 = some r) : Con Try.prog 62 [] true [.sl false none 2 none (a0.map Ref.row), .clo 63 []] (.val (.bool r)) := by
  refine fun_ok4 (G := (G_slices_ContainsFunc_Ref_turns_ValidRequest_1 N)) Try.func62 rfl (by decide) (by kernel_rfl) (gc 7 (fs_slices_IndexFunc_Ref_turns_ValidRequest_1_ok N) gn) [] mix (Nat.le_of_ble_eq_true rfl) ?_
  simp only [Try.f62]
  unfold slices_ContainsFunc_Ref_turns_ValidRequest_1 at h
  refine Wk_seq (Wk_regionZ fun Z hZ => ?_)
  simp only [go_sem, seval]
  refine hZ _ (pp (Wk_seq ?_))
  obtain ⟨r1, hr1, h⟩ := Option.bind_eq_some_iff.1 h
  refine Wk_regionZ fun Z hZ => ?_
  simp only [go_sem, seval, hr1]
  refine hZ _ (pp (Wk_ret (pp ?_)))
  cases h
  simp only [go_sem, seval]
  exact ⟨_, rfl, RokI.h, PureI.h⟩
def fs_slices_ContainsFunc_Ref_turns_ValidRequest_1 (N : Nat) : FnS := { own := [], pure := true, fn := fun cs => match cs with
  | [c0, .clo 63 []] => ((decL 2 Ref.dec) c0).bind fun qc0 => (slices_ContainsFunc_Ref_turns_ValidRequest_1 N qc0).map fun r => .val (.bool r)
  | _ => none }
attribute [go_sem] fs_slices_ContainsFunc_Ref_turns_ValidRequest_1
theorem fs_slices_ContainsFunc_Ref_turns_ValidRequest_1_ok (N : Nat) : FSOk Try.prog 62 (fs_slices_ContainsFunc_Ref_turns_ValidRequest_1 N) := by
  refine ⟨fun cs r h => ?_, fun h => by cases h⟩
  simp only [fs_slices_ContainsFunc_Ref_turns_ValidRequest_1] at h
  split at h
  · simp only [Option.bind_eq_some_iff, Option.map_eq_some_iff] at h
    obtain ⟨q0, h0, r', hr, rfl⟩ := h
    exact ((w_slices_ContainsFunc_Ref_turns_ValidRequest_1 N q0 r' hr).args (LeL.cons (decL_le Ref.dec_le h0) (LeL.cons (Le.clo (LeL.nil)) (LeL.nil))))
  · cases h


noncomputable def G_turns_ValidRequest (N d f : Nat) : Option FnS := glist [(9, 59, fs_turns_validID N), (13, 54, fs_directory_ValidRef N), (18, 60, fs_turns_name N), (23, 61, fs_turns_validArgs N), (37, 62, fs_slices_ContainsFunc_Ref_turns_ValidRequest_1 N), (43, 55, fs_turns_number N)] d f
attribute [go_sem] G_turns_ValidRequest
theorem w_turns_ValidRequest (N : Nat) (a0 : Request) (r : Bool) (h : turns_ValidRequest N a0 = some r) : Con Try.prog 17 [] true [.agg (Request.row a0)] (.val (.bool r)) := by
  refine fun_ok4 (G := (G_turns_ValidRequest N)) Try.func17 rfl (by decide) (by kernel_rfl) (gc 9 (fs_turns_validID_ok N) (gc 13 (fs_directory_ValidRef_ok N) (gc 18 (fs_turns_name_ok N) (gc 23 (fs_turns_validArgs_ok N) (gc 37 (fs_slices_ContainsFunc_Ref_turns_ValidRequest_1_ok N) (gc 43 (fs_turns_number_ok N) gn)))))) [] mix (Nat.le_of_ble_eq_true rfl) ?_
  simp only [Try.f17]
  unfold turns_ValidRequest at h
  refine Wk_seq (Wk_regionZ fun Z hZ => ?_)
  simp only [go_sem, seval]
  refine hZ _ (pp (Wk_seq ?_))
  obtain ⟨r1, hr1, h⟩ := Option.bind_eq_some_iff.1 h
  refine Wk_regionZ fun Z hZ => ?_
  simp only [go_sem, seval, hr1]
  refine sw (RX_guard_bool rfl) (fun hc2 => ?_) (fun hc2 => ?_)
  · rw [if_neg (ne_true_of_eq_false hc2)] at h
    simp only [go_sem, seval, hc2]
    refine hZ _ (pp (Wk_ret (pp ?_)))
    cases h
    simp only [go_sem, seval]
    exact ⟨_, rfl, RokI.h, PureI.h⟩
  rw [if_pos hc2] at h
  obtain ⟨r2, hr3, h⟩ := Option.bind_eq_some_iff.1 h
  simp only [go_sem, seval, hc2, hr3]
  refine sw (RX_guard_bool rfl) (fun hc4 => ?_) (fun hc4 => ?_)
  · rw [if_neg (ne_true_of_eq_false hc4)] at h
    simp only [go_sem, seval, hc4]
    refine hZ _ (pp (Wk_ret (pp ?_)))
    cases h
    simp only [go_sem, seval]
    exact ⟨_, rfl, RokI.h, PureI.h⟩
  rw [if_pos hc4] at h
  obtain ⟨r3, hr5, h⟩ := Option.bind_eq_some_iff.1 h
  simp only [go_sem, seval, hc4, hr5]
  refine sw (RX_guard_bool rfl) (fun hc6 => ?_) (fun hc6 => ?_)
  · rw [if_neg (ne_true_of_eq_false hc6)] at h
    simp only [go_sem, seval, hc6]
    refine hZ _ (pp (Wk_ret (pp ?_)))
    cases h
    simp only [go_sem, seval]
    exact ⟨_, rfl, RokI.h, PureI.h⟩
  rw [if_pos hc6] at h
  obtain ⟨r4, hr7, h⟩ := Option.bind_eq_some_iff.1 h
  simp only [go_sem, seval, hc6, hr7]
  refine sw (RX_guard_bool rfl) (fun hc8 => ?_) (fun hc8 => ?_)
  · rw [if_neg (ne_true_of_eq_false hc8)] at h
    simp only [go_sem, seval, hc8]
    refine hZ _ (pp (Wk_ret (pp ?_)))
    cases h
    simp only [go_sem, seval]
    exact ⟨_, rfl, RokI.h, PureI.h⟩
  rw [if_pos hc8] at h
  simp only [go_sem, seval, hc8]
  refine sw (RX_guard_dec rfl) (fun hc9 => ?_) (fun hc9 => ?_)
  · have hc9d := decide_eq_false hc9
    rw [if_neg hc9] at h
    simp only [go_sem, seval, hc9d]
    refine hZ _ (pp (Wk_ret (pp ?_)))
    cases h
    simp only [go_sem, seval]
    exact ⟨_, rfl, RokI.h, PureI.h⟩
  have hc9d := decide_eq_true hc9
  rw [if_pos hc9] at h
  obtain ⟨r5, hr10, h⟩ := Option.bind_eq_some_iff.1 h
  simp only [go_sem, seval, hc9d, hr10]
  refine RX_guard_nbool rfl (fun hc11 => ?_) (fun hc11 => ?_)
  · rw [if_neg (ne_true_of_eq_false hc11)] at h
    obtain ⟨r6, hr12, h⟩ := Option.bind_eq_some_iff.1 h
    simp only [go_sem, seval, hc11, hr12]
    refine hZ _ (pp (Wk_ret (pp ?_)))
    cases h
    simp only [go_sem, seval]
    exact ⟨_, rfl, RokI.h, PureI.h⟩
  rw [if_pos hc11] at h
  simp only [go_sem, seval, hc11]
  refine hZ _ (pp (Wk_ret (pp ?_)))
  cases h
  simp only [go_sem, seval]
  exact ⟨_, rfl, RokI.h, PureI.h⟩
def fs_turns_ValidRequest (N : Nat) : FnS := ⟨[], true, fn1 Request.decA fun q0 => (turns_ValidRequest N q0).map fun r => .val (.bool r), false⟩
attribute [go_sem] fs_turns_ValidRequest
theorem fs_turns_ValidRequest_ok (N : Nat) : FSOk Try.prog 17 (fs_turns_ValidRequest N) := ok1 (fun q0 r h => by
  obtain ⟨r', hr, rfl⟩ := Option.map_eq_some_iff.1 h
  exact w_turns_ValidRequest N q0 r' hr) (Request.decA_le)


theorem w_turns_zeroRequest (N : Nat) (a0 : Request) (r : Bool) (h : turns_zeroRequest N a0 = some r) : Con Try.prog 84 [] true [.agg (Request.row a0)] (.val (.bool r)) := by
  refine fun_ok4 (G := (glist [])) Try.func84 rfl (by decide) (by kernel_rfl) gn [] mix (Nat.le_of_ble_eq_true rfl) ?_
  simp only [Try.f84]
  unfold turns_zeroRequest at h
  refine Wk_seq (Wk_regionZ fun Z hZ => ?_)
  simp only [go_sem, seval]
  refine hZ _ (pp (Wk_seq (Wk_regionZ fun Z hZ => ?_)))
  simp only [go_sem, seval]
  refine sw (RX_guard_bool rfl) (fun hc1 => ?_) (fun hc1 => ?_)
  · rw [if_neg (ne_true_of_eq_false hc1)] at h
    simp only [go_sem, seval, hc1]
    refine hZ _ (pp (Wk_ret (pp ?_)))
    cases h
    simp only [go_sem, seval]
    exact ⟨_, rfl, RokI.h, PureI.h⟩
  rw [if_pos hc1] at h
  simp only [go_sem, seval, hc1]
  refine sw (RX_guard_dec rfl) (fun hc2 => ?_) (fun hc2 => ?_)
  · have hc2d := decide_eq_false hc2
    rw [if_neg hc2] at h
    simp only [go_sem, seval, hc2d]
    refine hZ _ (pp (Wk_ret (pp ?_)))
    cases h
    simp only [go_sem, seval]
    exact ⟨_, rfl, RokI.h, PureI.h⟩
  have hc2d := decide_eq_true hc2
  rw [if_pos hc2] at h
  simp only [go_sem, seval, hc2d]
  refine sw (RX_guard_dec rfl) (fun hc3 => ?_) (fun hc3 => ?_)
  · have hc3d := decide_eq_false hc3
    rw [if_neg hc3] at h
    simp only [go_sem, seval, hc3d]
    refine hZ _ (pp (Wk_ret (pp ?_)))
    cases h
    simp only [go_sem, seval]
    exact ⟨_, rfl, RokI.h, PureI.h⟩
  have hc3d := decide_eq_true hc3
  rw [if_pos hc3] at h
  simp only [go_sem, seval, hc3d]
  refine sw (RX_guard_bool rfl) (fun hc4 => ?_) (fun hc4 => ?_)
  · rw [if_neg (ne_true_of_eq_false hc4)] at h
    simp only [go_sem, seval, hc4]
    refine hZ _ (pp (Wk_ret (pp ?_)))
    cases h
    simp only [go_sem, seval]
    exact ⟨_, rfl, RokI.h, PureI.h⟩
  rw [if_pos hc4] at h
  simp only [go_sem, seval, hc4]
  refine sw (RX_guard_bool rfl) (fun hc5 => ?_) (fun hc5 => ?_)
  · rw [if_neg (ne_true_of_eq_false hc5)] at h
    simp only [go_sem, seval, hc5]
    refine hZ _ (pp (Wk_ret (pp ?_)))
    cases h
    simp only [go_sem, seval]
    exact ⟨_, rfl, RokI.h, PureI.h⟩
  rw [if_pos hc5] at h
  simp only [go_sem, seval, hc5]
  refine sw (RX_guard_dec rfl) (fun hc6 => ?_) (fun hc6 => ?_)
  · have hc6d := decide_eq_false hc6
    rw [if_neg hc6] at h
    simp only [go_sem, seval, hc6d]
    refine hZ _ (pp (Wk_ret (pp ?_)))
    cases h
    simp only [go_sem, seval]
    exact ⟨_, rfl, RokI.h, PureI.h⟩
  have hc6d := decide_eq_true hc6
  rw [if_pos hc6] at h
  simp only [go_sem, seval, hc6d]
  refine RX_guard_dec rfl (fun hc7 => ?_) (fun hc7 => ?_)
  · have hc7d := decide_eq_true hc7
    rw [if_pos hc7] at h
    simp only [go_sem, seval, hc7d]
    refine hZ _ (pp (Wk_ret (pp ?_)))
    cases h
    simp only [go_sem, seval]
    exact ⟨_, rfl, RokI.h, PureI.h⟩
  have hc7d := decide_eq_false hc7
  rw [if_neg hc7] at h
  simp only [go_sem, seval, hc7d]
  refine hZ _ (pp (Wk_ret (pp ?_)))
  cases h
  simp only [go_sem, seval]
  exact ⟨_, rfl, RokI.h, PureI.h⟩
def fs_turns_zeroRequest (N : Nat) : FnS := ⟨[], true, fn1 Request.decA fun q0 => (turns_zeroRequest N q0).map fun r => .val (.bool r), false⟩
attribute [go_sem] fs_turns_zeroRequest
theorem fs_turns_zeroRequest_ok (N : Nat) : FSOk Try.prog 84 (fs_turns_zeroRequest N) := ok1 (fun q0 r h => by
  obtain ⟨r', hr, rfl⟩ := Option.map_eq_some_iff.1 h
  exact w_turns_zeroRequest N q0 r' hr) (Request.decA_le)


theorem w_wire_same_int (N : Nat) (a0 : (List Int)) (a1 : (List Int)) (r : Bool) (h : wire_same_int N a0 a1 = some r) : Con Try.prog 102 [] true [.sl false none 1 none (a0.map (rowI .i64)), .sl false none 1 none (a1.map (rowI .i64))] (.val (.bool r)) := by
  refine fun_ok4 (G := (glist [])) Try.func102 rfl (by decide) (by kernel_rfl) gn [] mix (Nat.le_of_ble_eq_true rfl) ?_
  simp only [Try.f102]
  unfold wire_same_int at h
  refine Wk_seq (Wk_regionZ fun Z hZ => ?_)
  simp only [go_sem, seval]
  refine hZ _ (pp (Wk_seq (Wk_seq (Wk_regionZ fun Z hZ => ?_))))
  simp only [go_sem, seval]
  refine hZ _ (pp (Wk_cond_ndec rfl (fun hc1 => ?_) (fun hc1 => ?_)))
  · have hc1d := decide_eq_false hc1
    rw [if_neg hc1] at h
    refine Wk_seq (Wk_regionZ fun Z hZ => ?_)
    simp only [go_sem, seval, hc1d]
    refine hZ _ (pp (Wk_ret (pp ?_)))
    cases h
    simp only [go_sem, seval]
    exact ⟨_, rfl, RokI.h, PureI.h⟩
  have hc1d := decide_eq_true hc1
  rw [if_pos hc1] at h
  refine Wk_skip (pp (Wk_seq (Wk_seq (Wk_regionZ fun Z hZ => ?_))))
  simp only [go_sem, seval, hc1d]
  refine hZ _ (pp (Wk_block (Wk_real fun hreal3 => ?_)))
  have hl2 := hreal3.lenT 0 (by decide) (by simp only [go_sem, seval]; rfl)
  rw [List.length_map] at hl2
  refine Wk_range (fun (v3 : Nat) (b : Unit) => ⟨tab 26 (updT (updT (updT (updT deadT 0 (.sl false none 1 none (a0.map (rowI .i64)))) 1 (.sl false none 1 none (a1.map (rowI .i64)))) 12 (.val (.int .i64 ((a0.length : Nat) : Int)))) 13 (.val (.int .i64 ((v3 : Nat) : Int)))), RZ⟩) () h ?_ ?_
  · refine weak_roots ?_ ?_ <;> repeat' first | exact xn | exact rn | refine xc ?_ ?_ | refine rc ?_ ?_ ?_ | rfl
  rintro v3 ⟨⟩ hi4 h -
  rcases (drop_cases a0 v3 hi4).symm with ⟨hi4', _, hd7⟩ | ⟨x6, hi4', hx5, hd7⟩
  · rw [hd7] at h
    simp only [wire_same_int_L1] at h
    refine Wk_seq (Wk_regionZ fun Z hZ => ?_)
    simp only [go_sem, seval, hi4']
    refine hZ _ (pp (Wk_seq ?_))
    try simp only [Int.ofNat_lt, hi4', if_true, if_false] at h
    refine Wk_cond_f rfl (Wk_exit (pp (Wk_seq (Wk_regionZ fun Z hZ => ?_))))
    simp only [go_sem, seval]
    refine hZ _ (pp (Wk_ret (pp ?_)))
    cases h
    simp only [go_sem, seval]
    exact ⟨_, rfl, RokI.h, PureI.h⟩
  rw [hd7] at h
  simp only [wire_same_int_L1] at h
  have hw6 := wrap_succ hi4' hl2
  refine Wk_seq (Wk_regionZ fun Z hZ => ?_)
  simp only [go_sem, seval, hi4']
  refine hZ _ (pp (Wk_seq ?_))
  try simp only [Int.ofNat_lt, hi4', if_true, if_false] at h
  refine Wk_cond_t rfl (Wk_skip (pp (Wk_seq (Wk_block (Wk_seq (Wk_regionZ fun Z hZ => ?_))))))
  simp only [go_sem, seval]
  refine hZ _ (pp (Wk_seq ?_))
  try rw [gx_nat hx5] at h
  obtain ⟨x1, hb8, hx9, h⟩ := gx_some h
  try simp only [Int.toNat_natCast] at hx9
  try simp only [Int.ofNat_lt, Int.natCast_nonneg, true_and] at hb8
  refine Wk_regionD fun Z hZ => ?_
  simp only [go_sem, seval, hx5, hi4', hb8, hx9]
  refine hZ _ (by kernel_rfl) (pp (Wk_cond_ndec rfl (fun hc10 => ?_) (fun hc10 => ?_)))
  · have hc10d := decide_eq_false hc10
    rw [if_neg hc10] at h
    refine Wk_seq (Wk_regionZ fun Z hZ => ?_)
    simp only [go_sem, seval, hc10d]
    refine hZ _ (pp (Wk_ret (pp ?_)))
    cases h
    simp only [go_sem, seval]
    exact ⟨_, rfl, RokI.h, PureI.h⟩
  have hc10d := decide_eq_true hc10
  rw [if_pos hc10] at h
  refine Wk_skip (pp (Wk_regionZ fun Z hZ => ?_))
  simp only [go_sem, seval, hw6, hc10d]
  refine hZ _ (pp ?_)
  first | refine ⟨(), ?_, h⟩ | refine ⟨hi4', (), ?_, h⟩
  refine weak_roots ?_ ?_ <;> repeat' first | exact xn | exact rn | refine xc ?_ ?_ | refine rc ?_ ?_ ?_ | rfl
def fs_wire_same_int (N : Nat) : FnS := ⟨[], true, fn2 (decL 1 (dec1 (decI .i64))) (decL 1 (dec1 (decI .i64))) fun q0 q1 => (wire_same_int N q0 q1).map fun r => .val (.bool r), false⟩
attribute [go_sem] fs_wire_same_int
theorem fs_wire_same_int_ok (N : Nat) : FSOk Try.prog 102 (fs_wire_same_int N) := ok2 (fun q0 q1 r h => by
  obtain ⟨r', hr, rfl⟩ := Option.map_eq_some_iff.1 h
  exact w_wire_same_int N q0 q1 r' hr) (fun h => decL_le (decI1_le .i64) h) (fun h => decL_le (decI1_le .i64) h)


theorem w_wire_same_string (N : Nat) (a0 : (List ByteArray)) (a1 : (List ByteArray)) (r : Bool) (h : wire_same_string N a0 a1 = some r) : Con Try.prog 103 [] true [.sl false none 1 none (a0.map rowS), .sl false none 1 none (a1.map rowS)] (.val (.bool r)) := by
  refine fun_ok4 (G := (glist [])) Try.func103 rfl (by decide) (by kernel_rfl) gn [] mix (Nat.le_of_ble_eq_true rfl) ?_
  simp only [Try.f103]
  unfold wire_same_string at h
  refine Wk_seq (Wk_regionZ fun Z hZ => ?_)
  simp only [go_sem, seval]
  refine hZ _ (pp (Wk_seq (Wk_seq (Wk_regionZ fun Z hZ => ?_))))
  simp only [go_sem, seval]
  refine hZ _ (pp (Wk_cond_ndec rfl (fun hc1 => ?_) (fun hc1 => ?_)))
  · have hc1d := decide_eq_false hc1
    rw [if_neg hc1] at h
    refine Wk_seq (Wk_regionZ fun Z hZ => ?_)
    simp only [go_sem, seval, hc1d]
    refine hZ _ (pp (Wk_ret (pp ?_)))
    cases h
    simp only [go_sem, seval]
    exact ⟨_, rfl, RokI.h, PureI.h⟩
  have hc1d := decide_eq_true hc1
  rw [if_pos hc1] at h
  refine Wk_skip (pp (Wk_seq (Wk_seq (Wk_regionZ fun Z hZ => ?_))))
  simp only [go_sem, seval, hc1d]
  refine hZ _ (pp (Wk_block (Wk_real fun hreal3 => ?_)))
  have hl2 := hreal3.lenT 0 (by decide) (by simp only [go_sem, seval]; rfl)
  rw [List.length_map] at hl2
  refine Wk_range (fun (v3 : Nat) (b : Unit) => ⟨tab 26 (updT (updT (updT (updT deadT 0 (.sl false none 1 none (a0.map rowS))) 1 (.sl false none 1 none (a1.map rowS))) 12 (.val (.int .i64 ((a0.length : Nat) : Int)))) 13 (.val (.int .i64 ((v3 : Nat) : Int)))), RZ⟩) () h ?_ ?_
  · refine weak_roots ?_ ?_ <;> repeat' first | exact xn | exact rn | refine xc ?_ ?_ | refine rc ?_ ?_ ?_ | rfl
  rintro v3 ⟨⟩ hi4 h -
  rcases (drop_cases a0 v3 hi4).symm with ⟨hi4', _, hd7⟩ | ⟨x6, hi4', hx5, hd7⟩
  · rw [hd7] at h
    simp only [wire_same_string_L1] at h
    refine Wk_seq (Wk_regionZ fun Z hZ => ?_)
    simp only [go_sem, seval, hi4']
    refine hZ _ (pp (Wk_seq ?_))
    try simp only [Int.ofNat_lt, hi4', if_true, if_false] at h
    refine Wk_cond_f rfl (Wk_exit (pp (Wk_seq (Wk_regionZ fun Z hZ => ?_))))
    simp only [go_sem, seval]
    refine hZ _ (pp (Wk_ret (pp ?_)))
    cases h
    simp only [go_sem, seval]
    exact ⟨_, rfl, RokI.h, PureI.h⟩
  rw [hd7] at h
  simp only [wire_same_string_L1] at h
  have hw6 := wrap_succ hi4' hl2
  refine Wk_seq (Wk_regionZ fun Z hZ => ?_)
  simp only [go_sem, seval, hi4']
  refine hZ _ (pp (Wk_seq ?_))
  try simp only [Int.ofNat_lt, hi4', if_true, if_false] at h
  refine Wk_cond_t rfl (Wk_skip (pp (Wk_seq (Wk_block (Wk_seq (Wk_regionZ fun Z hZ => ?_))))))
  simp only [go_sem, seval]
  refine hZ _ (pp (Wk_seq ?_))
  try rw [gx_nat hx5] at h
  obtain ⟨x1, hb8, hx9, h⟩ := gx_some h
  try simp only [Int.toNat_natCast] at hx9
  try simp only [Int.ofNat_lt, Int.natCast_nonneg, true_and] at hb8
  refine Wk_regionD fun Z hZ => ?_
  simp only [go_sem, seval, hx5, hi4', hb8, hx9]
  refine hZ _ (by kernel_rfl) (pp (Wk_cond_nbool rfl (fun hc10 => ?_) (fun hc10 => ?_)))
  · rw [if_neg (ne_true_of_eq_false hc10)] at h
    refine Wk_seq (Wk_regionZ fun Z hZ => ?_)
    simp only [go_sem, seval, hc10]
    refine hZ _ (pp (Wk_ret (pp ?_)))
    cases h
    simp only [go_sem, seval]
    exact ⟨_, rfl, RokI.h, PureI.h⟩
  rw [if_pos hc10] at h
  refine Wk_skip (pp (Wk_regionZ fun Z hZ => ?_))
  simp only [go_sem, seval, hw6, hc10]
  refine hZ _ (pp ?_)
  first | refine ⟨(), ?_, h⟩ | refine ⟨hi4', (), ?_, h⟩
  refine weak_roots ?_ ?_ <;> repeat' first | exact xn | exact rn | refine xc ?_ ?_ | refine rc ?_ ?_ ?_ | rfl
def fs_wire_same_string (N : Nat) : FnS := ⟨[], true, fn2 (decL 1 (dec1 decS)) (decL 1 (dec1 decS)) fun q0 q1 => (wire_same_string N q0 q1).map fun r => .val (.bool r), false⟩
attribute [go_sem] fs_wire_same_string
theorem fs_wire_same_string_ok (N : Nat) : FSOk Try.prog 103 (fs_wire_same_string N) := ok2 (fun q0 q1 r h => by
  obtain ⟨r', hr, rfl⟩ := Option.map_eq_some_iff.1 h
  exact w_wire_same_string N q0 q1 r' hr) (fun h => decL_le decS1_le h) (fun h => decL_le decS1_le h)


noncomputable def G_wire_SameValue (N d f : Nat) : Option FnS := glist [(29, 102, fs_wire_same_int N), (36, 103, fs_wire_same_string N)] d f
attribute [go_sem] G_wire_SameValue
theorem w_wire_SameValue (N : Nat) (a0 : Value) (a1 : Value) (r : Bool) (h : wire_SameValue N a0 a1 = some r) : Con Try.prog 97 [] true [.agg (Value.row a0), .agg (Value.row a1)] (.val (.bool r)) := by
  refine fun_ok4 (G := (G_wire_SameValue N)) Try.func97 rfl (by decide) (by kernel_rfl) (gc 29 (fs_wire_same_int_ok N) (gc 36 (fs_wire_same_string_ok N) gn)) [] mix (Nat.le_of_ble_eq_true rfl) ?_
  simp only [Try.f97]
  unfold wire_SameValue at h
  refine Wk_seq (Wk_regionZ fun Z hZ => ?_)
  simp only [go_sem, seval]
  refine hZ _ (pp (Wk_seq (Wk_regionZ fun Z hZ => ?_)))
  simp only [go_sem, seval]
  refine sw (RX_guard_dec rfl) (fun hc1 => ?_) (fun hc1 => ?_)
  · have hc1d := decide_eq_false hc1
    rw [if_neg hc1] at h
    simp only [go_sem, seval, hc1d]
    refine hZ _ (pp (Wk_ret (pp ?_)))
    cases h
    simp only [go_sem, seval]
    exact ⟨_, rfl, RokI.h, PureI.h⟩
  have hc1d := decide_eq_true hc1
  rw [if_pos hc1] at h
  simp only [go_sem, seval, hc1d]
  refine sw (RX_guard_dec rfl) (fun hc2 => ?_) (fun hc2 => ?_)
  · have hc2d := decide_eq_false hc2
    rw [if_neg hc2] at h
    simp only [go_sem, seval, hc2d]
    refine hZ _ (pp (Wk_ret (pp ?_)))
    cases h
    simp only [go_sem, seval]
    exact ⟨_, rfl, RokI.h, PureI.h⟩
  have hc2d := decide_eq_true hc2
  rw [if_pos hc2] at h
  simp only [go_sem, seval, hc2d]
  refine sw (RX_guard_bool rfl) (fun hc3 => ?_) (fun hc3 => ?_)
  · rw [if_neg (ne_true_of_eq_false hc3)] at h
    simp only [go_sem, seval, hc3]
    refine hZ _ (pp (Wk_ret (pp ?_)))
    cases h
    simp only [go_sem, seval]
    exact ⟨_, rfl, RokI.h, PureI.h⟩
  rw [if_pos hc3] at h
  obtain ⟨r1, hr4, h⟩ := Option.bind_eq_some_iff.1 h
  simp only [go_sem, seval, hc3, hr4]
  refine RX_guard_bool rfl (fun hc5 => ?_) (fun hc5 => ?_)
  · rw [if_pos hc5] at h
    obtain ⟨r2, hr6, h⟩ := Option.bind_eq_some_iff.1 h
    simp only [go_sem, seval, hc5, hr6]
    refine hZ _ (pp (Wk_ret (pp ?_)))
    cases h
    simp only [go_sem, seval]
    exact ⟨_, rfl, RokI.h, PureI.h⟩
  rw [if_neg (ne_true_of_eq_false hc5)] at h
  simp only [go_sem, seval, hc5]
  refine hZ _ (pp (Wk_ret (pp ?_)))
  cases h
  simp only [go_sem, seval]
  exact ⟨_, rfl, RokI.h, PureI.h⟩
def fs_wire_SameValue (N : Nat) : FnS := ⟨[], true, fn2 Value.decA Value.decA fun q0 q1 => (wire_SameValue N q0 q1).map fun r => .val (.bool r), false⟩
attribute [go_sem] fs_wire_SameValue
theorem fs_wire_SameValue_ok (N : Nat) : FSOk Try.prog 97 (fs_wire_SameValue N) := ok2 (fun q0 q1 r h => by
  obtain ⟨r', hr, rfl⟩ := Option.map_eq_some_iff.1 h
  exact w_wire_SameValue N q0 q1 r' hr) (Value.decA_le) (Value.decA_le)


noncomputable def G_turns_zeroReply (N d f : Nat) : Option FnS := glist [(26, 97, fs_wire_SameValue N)] d f
attribute [go_sem] G_turns_zeroReply
theorem w_turns_zeroReply (N : Nat) (a0 : Reply) (r : Bool) (h : turns_zeroReply N a0 = some r) : Con Try.prog 85 [] true [.agg (Reply.row a0)] (.val (.bool r)) := by
  refine fun_ok4 (G := (G_turns_zeroReply N)) Try.func85 rfl (by decide) (by kernel_rfl) (gc 26 (fs_wire_SameValue_ok N) gn) [] mix (Nat.le_of_ble_eq_true rfl) ?_
  simp only [Try.f85]
  unfold turns_zeroReply at h
  refine Wk_seq (Wk_regionZ fun Z hZ => ?_)
  simp only [go_sem, seval]
  refine hZ _ (pp (Wk_seq (Wk_regionZ fun Z hZ => ?_)))
  simp only [go_sem, seval]
  refine sw (RX_guard_bool rfl) (fun hc1 => ?_) (fun hc1 => ?_)
  · rw [if_neg (ne_true_of_eq_false hc1)] at h
    simp only [go_sem, seval, hc1]
    refine hZ _ (pp (Wk_ret (pp ?_)))
    cases h
    simp only [go_sem, seval]
    exact ⟨_, rfl, RokI.h, PureI.h⟩
  rw [if_pos hc1] at h
  simp only [go_sem, seval, hc1]
  refine sw (RX_guard_dec rfl) (fun hc2 => ?_) (fun hc2 => ?_)
  · have hc2d := decide_eq_false hc2
    rw [if_neg hc2] at h
    simp only [go_sem, seval, hc2d]
    refine hZ _ (pp (Wk_ret (pp ?_)))
    cases h
    simp only [go_sem, seval]
    exact ⟨_, rfl, RokI.h, PureI.h⟩
  have hc2d := decide_eq_true hc2
  rw [if_pos hc2] at h
  simp only [go_sem, seval, hc2d]
  refine sw (RX_guard_dec rfl) (fun hc3 => ?_) (fun hc3 => ?_)
  · have hc3d := decide_eq_false hc3
    rw [if_neg hc3] at h
    simp only [go_sem, seval, hc3d]
    refine hZ _ (pp (Wk_ret (pp ?_)))
    cases h
    simp only [go_sem, seval]
    exact ⟨_, rfl, RokI.h, PureI.h⟩
  have hc3d := decide_eq_true hc3
  rw [if_pos hc3] at h
  simp only [go_sem, seval, hc3d]
  refine RX_guard_dec rfl (fun hc4 => ?_) (fun hc4 => ?_)
  · have hc4d := decide_eq_true hc4
    rw [if_pos hc4] at h
    obtain ⟨r1, hr5, h⟩ := Option.bind_eq_some_iff.1 h
    simp only [go_sem, seval, hc4d, hr5]
    refine hZ _ (pp (Wk_ret (pp ?_)))
    cases h
    simp only [go_sem, seval]
    exact ⟨_, rfl, RokI.h, PureI.h⟩
  have hc4d := decide_eq_false hc4
  rw [if_neg hc4] at h
  simp only [go_sem, seval, hc4d]
  refine hZ _ (pp (Wk_ret (pp ?_)))
  cases h
  simp only [go_sem, seval]
  exact ⟨_, rfl, RokI.h, PureI.h⟩
def fs_turns_zeroReply (N : Nat) : FnS := ⟨[], true, fn1 Reply.decA fun q0 => (turns_zeroReply N q0).map fun r => .val (.bool r), false⟩
attribute [go_sem] fs_turns_zeroReply
theorem fs_turns_zeroReply_ok (N : Nat) : FSOk Try.prog 85 (fs_turns_zeroReply N) := ok1 (fun q0 r h => by
  obtain ⟨r', hr, rfl⟩ := Option.map_eq_some_iff.1 h
  exact w_turns_zeroReply N q0 r' hr) (Reply.decA_le)


theorem w_slices_Clone_int_nn (N : Nat) (a0 : (List Int)) (r : (List Int)) (h : slices_Clone_int N a0 = some r) : Con Try.prog 82 [] true [.sl false (some false) 1 none (a0.map (rowI .i64))] (.sl true none 1 none (r.map (rowI .i64))) := by
  refine fun_ok4 (G := (glist [])) Try.func82 rfl (by decide) (by kernel_rfl) gn [] mix (Nat.le_of_ble_eq_true rfl) ?_
  simp only [Try.f82]
  unfold slices_Clone_int at h
  refine Wk_seq (Wk_regionZ fun Z hZ => ?_)
  simp only [go_sem, seval]
  refine hZ _ (pp (Wk_seq (Wk_seq (Wk_regionZ fun Z hZ => ?_))))
  simp only [go_sem, seval]
  refine hZ _ (pp (Wk_cond_f rfl ?_))
  first | rw [if_pos (rfl : true = true)] at h | rw [if_neg Bool.false_ne_true] at h | skip
  refine Wk_skip (pp (Wk_seq ?_))
  first | obtain ⟨ha1, h⟩ := apn_some h | (obtain ⟨ha1, h⟩ := apx_some h; rw [List.nil_append] at h)
  simp only [Nat.reduceAdd] at ha1
  refine Wk_regionZ fun Z hZ => ?_
  simp only [go_sem, seval, ha1]
  refine hZ _ (pp (Wk_ret (pp ?_)))
  cases h
  simp only [go_sem, seval]
  exact ⟨_, rfl, RokI.h, PureI.h⟩
theorem w_slices_Clone_int_nil (N : Nat)  (r : (List Int)) (h : slices_Clone_int N [] = some r) : Con Try.prog 82 [] true [.val (.slice none 0 0)] (.sl true none 1 none (r.map (rowI .i64))) := by
  refine fun_ok4 (G := (glist [])) Try.func82 rfl (by decide) (by kernel_rfl) gn [] mix (Nat.le_of_ble_eq_true rfl) ?_
  simp only [Try.f82]
  unfold slices_Clone_int at h
  refine Wk_seq (Wk_regionZ fun Z hZ => ?_)
  simp only [go_sem, seval]
  refine hZ _ (pp (Wk_seq (Wk_seq (Wk_regionZ fun Z hZ => ?_))))
  simp only [go_sem, seval]
  refine hZ _ (pp (Wk_cond_t rfl ?_))
  first | rw [if_pos (rfl : true = true)] at h | rw [if_neg Bool.false_ne_true] at h | skip
  refine Wk_seq (Wk_regionZ fun Z hZ => ?_)
  simp only [go_sem, seval]
  refine hZ _ (pp (Wk_ret (pp ?_)))
  obtain rfl : r = [] := by simpa [apn] using h.symm
  simp only [go_sem, seval]
  exact ⟨_, rfl, RokI.h, PureI.h⟩
theorem w_slices_Clone_int (N : Nat) (a0 : (List Int)) (r : (List Int)) (h : slices_Clone_int N a0 = some r) : Con Try.prog 82 [] true [.sl false none 1 none (a0.map (rowI .i64))] (.sl true none 1 none (r.map (rowI .i64))) :=
  Con_nl (fun e => by obtain rfl : a0 = [] := List.map_eq_nil_iff.1 e; exact w_slices_Clone_int_nil N r h) (w_slices_Clone_int_nn N a0 r h)
def fs_slices_Clone_int (N : Nat) : FnS := ⟨[], true, fn1 (decL 1 (dec1 (decI .i64))) fun q0 => (slices_Clone_int N q0).map fun r => .sl false none 1 none (r.map (rowI .i64)), false⟩
attribute [go_sem] fs_slices_Clone_int
theorem fs_slices_Clone_int_ok (N : Nat) : FSOk Try.prog 82 (fs_slices_Clone_int N) := ok1 (fun q0 r h => by
  obtain ⟨r', hr, rfl⟩ := Option.map_eq_some_iff.1 h
  exact (w_slices_Clone_int N q0 r' hr).res (by (try simp only [go_sem]); exact RokI.h)) (fun h => decL_le (decI1_le .i64) h)

def fso_slices_Clone_int (N : Nat) : FnS := ⟨[], true, fn1 (decL 1 (dec1 (decI .i64))) fun q0 => (slices_Clone_int N q0).map fun r => .sl true none 1 none (r.map (rowI .i64)), false⟩
attribute [go_sem] fso_slices_Clone_int
theorem fso_slices_Clone_int_ok (N : Nat) : FSOk Try.prog 82 (fso_slices_Clone_int N) := ok1 (fun q0 r h => by
  obtain ⟨r', hr, rfl⟩ := Option.map_eq_some_iff.1 h
  exact w_slices_Clone_int N q0 r' hr) (fun h => decL_le (decI1_le .i64) h)


theorem w_slices_Equal_int (N : Nat) (a0 : (List Int)) (a1 : (List Int)) (r : Bool) (h : slices_Equal_int N a0 a1 = some r) : Con Try.prog 69 [] true [.sl false none 1 none (a0.map (rowI .i64)), .sl false none 1 none (a1.map (rowI .i64))] (.val (.bool r)) := by
  refine fun_ok4 (G := (glist [])) Try.func69 rfl (by decide) (by kernel_rfl) gn [] mix (Nat.le_of_ble_eq_true rfl) ?_
  simp only [Try.f69]
  unfold slices_Equal_int at h
  refine Wk_seq (Wk_regionZ fun Z hZ => ?_)
  simp only [go_sem, seval]
  refine hZ _ (pp (Wk_seq (Wk_seq (Wk_regionZ fun Z hZ => ?_))))
  simp only [go_sem, seval]
  refine hZ _ (pp (Wk_cond_ndec rfl (fun hc1 => ?_) (fun hc1 => ?_)))
  · have hc1d := decide_eq_false hc1
    rw [if_neg hc1] at h
    refine Wk_seq (Wk_regionZ fun Z hZ => ?_)
    simp only [go_sem, seval, hc1d]
    refine hZ _ (pp (Wk_ret (pp ?_)))
    cases h
    simp only [go_sem, seval]
    exact ⟨_, rfl, RokI.h, PureI.h⟩
  have hc1d := decide_eq_true hc1
  rw [if_pos hc1] at h
  refine Wk_skip (pp (Wk_seq (Wk_seq (Wk_regionZ fun Z hZ => ?_))))
  simp only [go_sem, seval, hc1d]
  refine hZ _ (pp (Wk_block (Wk_real fun hreal3 => ?_)))
  have hl2 := hreal3.lenT 0 (by decide) (by simp only [go_sem, seval]; rfl)
  rw [List.length_map] at hl2
  refine Wk_range (fun (v3 : Nat) (b : Unit) => ⟨tab 26 (updT (updT (updT (updT deadT 0 (.sl false none 1 none (a0.map (rowI .i64)))) 1 (.sl false none 1 none (a1.map (rowI .i64)))) 12 (.val (.int .i64 ((a0.length : Nat) : Int)))) 13 (.val (.int .i64 ((v3 : Nat) : Int)))), RZ⟩) () h ?_ ?_
  · refine weak_roots ?_ ?_ <;> repeat' first | exact xn | exact rn | refine xc ?_ ?_ | refine rc ?_ ?_ ?_ | rfl
  rintro v3 ⟨⟩ hi4 h -
  rcases (drop_cases a0 v3 hi4).symm with ⟨hi4', _, hd7⟩ | ⟨x6, hi4', hx5, hd7⟩
  · rw [hd7] at h
    simp only [slices_Equal_int_L1] at h
    refine Wk_seq (Wk_regionZ fun Z hZ => ?_)
    simp only [go_sem, seval, hi4']
    refine hZ _ (pp (Wk_seq ?_))
    try simp only [Int.ofNat_lt, hi4', if_true, if_false] at h
    refine Wk_cond_f rfl (Wk_exit (pp (Wk_seq (Wk_regionZ fun Z hZ => ?_))))
    simp only [go_sem, seval]
    refine hZ _ (pp (Wk_ret (pp ?_)))
    cases h
    simp only [go_sem, seval]
    exact ⟨_, rfl, RokI.h, PureI.h⟩
  rw [hd7] at h
  simp only [slices_Equal_int_L1] at h
  have hw6 := wrap_succ hi4' hl2
  refine Wk_seq (Wk_regionZ fun Z hZ => ?_)
  simp only [go_sem, seval, hi4']
  refine hZ _ (pp (Wk_seq ?_))
  try simp only [Int.ofNat_lt, hi4', if_true, if_false] at h
  refine Wk_cond_t rfl (Wk_skip (pp (Wk_seq (Wk_block (Wk_seq (Wk_regionZ fun Z hZ => ?_))))))
  simp only [go_sem, seval]
  refine hZ _ (pp (Wk_seq ?_))
  try rw [gx_nat hx5] at h
  obtain ⟨x1, hb8, hx9, h⟩ := gx_some h
  try simp only [Int.toNat_natCast] at hx9
  try simp only [Int.ofNat_lt, Int.natCast_nonneg, true_and] at hb8
  refine Wk_regionD fun Z hZ => ?_
  simp only [go_sem, seval, hx5, hi4', hb8, hx9]
  refine hZ _ (by kernel_rfl) (pp (Wk_cond_ndec rfl (fun hc10 => ?_) (fun hc10 => ?_)))
  · have hc10d := decide_eq_false hc10
    rw [if_neg hc10] at h
    refine Wk_seq (Wk_regionZ fun Z hZ => ?_)
    simp only [go_sem, seval, hc10d]
    refine hZ _ (pp (Wk_ret (pp ?_)))
    cases h
    simp only [go_sem, seval]
    exact ⟨_, rfl, RokI.h, PureI.h⟩
  have hc10d := decide_eq_true hc10
  rw [if_pos hc10] at h
  refine Wk_skip (pp (Wk_regionZ fun Z hZ => ?_))
  simp only [go_sem, seval, hw6, hc10d]
  refine hZ _ (pp ?_)
  first | refine ⟨(), ?_, h⟩ | refine ⟨hi4', (), ?_, h⟩
  refine weak_roots ?_ ?_ <;> repeat' first | exact xn | exact rn | refine xc ?_ ?_ | refine rc ?_ ?_ ?_ | rfl
def fs_slices_Equal_int (N : Nat) : FnS := ⟨[], true, fn2 (decL 1 (dec1 (decI .i64))) (decL 1 (dec1 (decI .i64))) fun q0 q1 => (slices_Equal_int N q0 q1).map fun r => .val (.bool r), false⟩
attribute [go_sem] fs_slices_Equal_int
theorem fs_slices_Equal_int_ok (N : Nat) : FSOk Try.prog 69 (fs_slices_Equal_int N) := ok2 (fun q0 q1 r h => by
  obtain ⟨r', hr, rfl⟩ := Option.map_eq_some_iff.1 h
  exact w_slices_Equal_int N q0 q1 r' hr) (fun h => decL_le (decI1_le .i64) h) (fun h => decL_le (decI1_le .i64) h)


theorem w_slices_Clone_Ref_nn (N : Nat) (a0 : (List Ref)) (r : (List Ref)) (h : slices_Clone_Ref N a0 = some r) : Con Try.prog 83 [] true [.sl false (some false) 2 none (a0.map Ref.row)] (.sl true none 2 none (r.map Ref.row)) := by
  refine fun_ok4 (G := (glist [])) Try.func83 rfl (by decide) (by kernel_rfl) gn [] mix (Nat.le_of_ble_eq_true rfl) ?_
  simp only [Try.f83]
  unfold slices_Clone_Ref at h
  refine Wk_seq (Wk_regionZ fun Z hZ => ?_)
  simp only [go_sem, seval]
  refine hZ _ (pp (Wk_seq (Wk_seq (Wk_regionZ fun Z hZ => ?_))))
  simp only [go_sem, seval]
  refine hZ _ (pp (Wk_cond_f rfl ?_))
  first | rw [if_pos (rfl : true = true)] at h | rw [if_neg Bool.false_ne_true] at h | skip
  refine Wk_skip (pp (Wk_seq ?_))
  first | obtain ⟨ha1, h⟩ := apn_some h | (obtain ⟨ha1, h⟩ := apx_some h; rw [List.nil_append] at h)
  simp only [Nat.reduceAdd] at ha1
  refine Wk_regionZ fun Z hZ => ?_
  simp only [go_sem, seval, ha1]
  refine hZ _ (pp (Wk_ret (pp ?_)))
  cases h
  simp only [go_sem, seval]
  exact ⟨_, rfl, RokI.h, PureI.h⟩
theorem w_slices_Clone_Ref_nil (N : Nat)  (r : (List Ref)) (h : slices_Clone_Ref N [] = some r) : Con Try.prog 83 [] true [.val (.slice none 0 0)] (.sl true none 2 none (r.map Ref.row)) := by
  refine fun_ok4 (G := (glist [])) Try.func83 rfl (by decide) (by kernel_rfl) gn [] mix (Nat.le_of_ble_eq_true rfl) ?_
  simp only [Try.f83]
  unfold slices_Clone_Ref at h
  refine Wk_seq (Wk_regionZ fun Z hZ => ?_)
  simp only [go_sem, seval]
  refine hZ _ (pp (Wk_seq (Wk_seq (Wk_regionZ fun Z hZ => ?_))))
  simp only [go_sem, seval]
  refine hZ _ (pp (Wk_cond_t rfl ?_))
  first | rw [if_pos (rfl : true = true)] at h | rw [if_neg Bool.false_ne_true] at h | skip
  refine Wk_seq (Wk_regionZ fun Z hZ => ?_)
  simp only [go_sem, seval]
  refine hZ _ (pp (Wk_ret (pp ?_)))
  obtain rfl : r = [] := by simpa [apn] using h.symm
  simp only [go_sem, seval]
  exact ⟨_, rfl, RokI.h, PureI.h⟩
theorem w_slices_Clone_Ref (N : Nat) (a0 : (List Ref)) (r : (List Ref)) (h : slices_Clone_Ref N a0 = some r) : Con Try.prog 83 [] true [.sl false none 2 none (a0.map Ref.row)] (.sl true none 2 none (r.map Ref.row)) :=
  Con_nl (fun e => by obtain rfl : a0 = [] := List.map_eq_nil_iff.1 e; exact w_slices_Clone_Ref_nil N r h) (w_slices_Clone_Ref_nn N a0 r h)
def fs_slices_Clone_Ref (N : Nat) : FnS := ⟨[], true, fn1 (decL 2 Ref.dec) fun q0 => (slices_Clone_Ref N q0).map fun r => .sl false none 2 none (r.map Ref.row), false⟩
attribute [go_sem] fs_slices_Clone_Ref
theorem fs_slices_Clone_Ref_ok (N : Nat) : FSOk Try.prog 83 (fs_slices_Clone_Ref N) := ok1 (fun q0 r h => by
  obtain ⟨r', hr, rfl⟩ := Option.map_eq_some_iff.1 h
  exact (w_slices_Clone_Ref N q0 r' hr).res (by (try simp only [go_sem]); exact RokI.h)) (fun h => decL_le Ref.dec_le h)

def fso_slices_Clone_Ref (N : Nat) : FnS := ⟨[], true, fn1 (decL 2 Ref.dec) fun q0 => (slices_Clone_Ref N q0).map fun r => .sl true none 2 none (r.map Ref.row), false⟩
attribute [go_sem] fso_slices_Clone_Ref
theorem fso_slices_Clone_Ref_ok (N : Nat) : FSOk Try.prog 83 (fso_slices_Clone_Ref N) := ok1 (fun q0 r h => by
  obtain ⟨r', hr, rfl⟩ := Option.map_eq_some_iff.1 h
  exact w_slices_Clone_Ref N q0 r' hr) (fun h => decL_le Ref.dec_le h)


theorem w_slices_Equal_Ref (N : Nat) (a0 : (List Ref)) (a1 : (List Ref)) (r : Bool) (h : slices_Equal_Ref N a0 a1 = some r) : Con Try.prog 98 [] true [.sl false none 2 none (a0.map Ref.row), .sl false none 2 none (a1.map Ref.row)] (.val (.bool r)) := by
  refine fun_ok4 (G := (glist [])) Try.func98 rfl (by decide) (by kernel_rfl) gn [] mix (Nat.le_of_ble_eq_true rfl) ?_
  simp only [Try.f98]
  unfold slices_Equal_Ref at h
  refine Wk_seq (Wk_regionZ fun Z hZ => ?_)
  simp only [go_sem, seval]
  refine hZ _ (pp (Wk_seq (Wk_seq (Wk_regionZ fun Z hZ => ?_))))
  simp only [go_sem, seval]
  refine hZ _ (pp (Wk_cond_ndec rfl (fun hc1 => ?_) (fun hc1 => ?_)))
  · have hc1d := decide_eq_false hc1
    rw [if_neg hc1] at h
    refine Wk_seq (Wk_regionZ fun Z hZ => ?_)
    simp only [go_sem, seval, hc1d]
    refine hZ _ (pp (Wk_ret (pp ?_)))
    cases h
    simp only [go_sem, seval]
    exact ⟨_, rfl, RokI.h, PureI.h⟩
  have hc1d := decide_eq_true hc1
  rw [if_pos hc1] at h
  refine Wk_skip (pp (Wk_seq (Wk_seq (Wk_regionZ fun Z hZ => ?_))))
  simp only [go_sem, seval, hc1d]
  refine hZ _ (pp (Wk_block (Wk_real fun hreal3 => ?_)))
  have hl2 := hreal3.lenT 0 (by decide) (by simp only [go_sem, seval]; rfl)
  rw [List.length_map] at hl2
  refine Wk_range (fun (v3 : Nat) (b : Unit) => ⟨tab 26 (updT (updT (updT (updT deadT 0 (.sl false none 2 none (a0.map Ref.row))) 1 (.sl false none 2 none (a1.map Ref.row))) 12 (.val (.int .i64 ((a0.length : Nat) : Int)))) 13 (.val (.int .i64 ((v3 : Nat) : Int)))), RZ⟩) () h ?_ ?_
  · refine weak_roots ?_ ?_ <;> repeat' first | exact xn | exact rn | refine xc ?_ ?_ | refine rc ?_ ?_ ?_ | rfl
  rintro v3 ⟨⟩ hi4 h -
  rcases (drop_cases a0 v3 hi4).symm with ⟨hi4', _, hd7⟩ | ⟨x6, hi4', hx5, hd7⟩
  · rw [hd7] at h
    simp only [slices_Equal_Ref_L1] at h
    refine Wk_seq (Wk_regionZ fun Z hZ => ?_)
    simp only [go_sem, seval, hi4']
    refine hZ _ (pp (Wk_seq ?_))
    try simp only [Int.ofNat_lt, hi4', if_true, if_false] at h
    refine Wk_cond_f rfl (Wk_exit (pp (Wk_seq (Wk_regionZ fun Z hZ => ?_))))
    simp only [go_sem, seval]
    refine hZ _ (pp (Wk_ret (pp ?_)))
    cases h
    simp only [go_sem, seval]
    exact ⟨_, rfl, RokI.h, PureI.h⟩
  rw [hd7] at h
  simp only [slices_Equal_Ref_L1] at h
  have hw6 := wrap_succ hi4' hl2
  refine Wk_seq (Wk_regionZ fun Z hZ => ?_)
  simp only [go_sem, seval, hi4']
  refine hZ _ (pp (Wk_seq ?_))
  try simp only [Int.ofNat_lt, hi4', if_true, if_false] at h
  refine Wk_cond_t rfl (Wk_skip (pp (Wk_seq (Wk_block (Wk_seq (Wk_regionZ fun Z hZ => ?_))))))
  simp only [go_sem, seval]
  refine hZ _ (pp (Wk_seq ?_))
  try rw [gx_nat hx5] at h
  obtain ⟨x1, hb8, hx9, h⟩ := gx_some h
  try simp only [Int.toNat_natCast] at hx9
  try simp only [Int.ofNat_lt, Int.natCast_nonneg, true_and] at hb8
  refine Wk_regionD fun Z hZ => ?_
  simp only [go_sem, seval, hx5, hi4', hb8, hx9]
  refine hZ _ (by kernel_rfl) (pp (Wk_cond_nbool rfl (fun hc10 => ?_) (fun hc10 => ?_)))
  · rw [if_neg (ne_true_of_eq_false hc10)] at h
    refine Wk_seq (Wk_regionZ fun Z hZ => ?_)
    simp only [go_sem, seval, hc10]
    refine hZ _ (pp (Wk_ret (pp ?_)))
    cases h
    simp only [go_sem, seval]
    exact ⟨_, rfl, RokI.h, PureI.h⟩
  rw [if_pos hc10] at h
  refine Wk_skip (pp (Wk_regionZ fun Z hZ => ?_))
  simp only [go_sem, seval, hw6, hc10]
  refine hZ _ (pp ?_)
  first | refine ⟨(), ?_, h⟩ | refine ⟨hi4', (), ?_, h⟩
  refine weak_roots ?_ ?_ <;> repeat' first | exact xn | exact rn | refine xc ?_ ?_ | refine rc ?_ ?_ ?_ | rfl
def fs_slices_Equal_Ref (N : Nat) : FnS := ⟨[], true, fn2 (decL 2 Ref.dec) (decL 2 Ref.dec) fun q0 q1 => (slices_Equal_Ref N q0 q1).map fun r => .val (.bool r), false⟩
attribute [go_sem] fs_slices_Equal_Ref
theorem fs_slices_Equal_Ref_ok (N : Nat) : FSOk Try.prog 98 (fs_slices_Equal_Ref N) := ok2 (fun q0 q1 r h => by
  obtain ⟨r', hr, rfl⟩ := Option.map_eq_some_iff.1 h
  exact w_slices_Equal_Ref N q0 q1 r' hr) (fun h => decL_le Ref.dec_le h) (fun h => decL_le Ref.dec_le h)


noncomputable def G_turns_validCall (N d f : Nat) : Option FnS := glist [(12, 17, fs_turns_ValidRequest N), (44, 82, fso_slices_Clone_int N), (50, 69, fs_slices_Equal_int N), (56, 83, fso_slices_Clone_Ref N), (60, 98, fs_slices_Equal_Ref N)] d f
attribute [go_sem] G_turns_validCall
theorem w_turns_validCall (N : Nat) (a0 : Ref) (a1 : Turn) (r : Bool) (h : turns_validCall N a0 a1 = some r) : Con Try.prog 86 [] true [.agg [.val (.string a0.Type_), .val (.string a0.Key)], .agg (Turn.row a1)] (.val (.bool r)) := by
  refine fun_ok4 (G := (G_turns_validCall N)) Try.func86 rfl (by decide) (by kernel_rfl) (gc 12 (fs_turns_ValidRequest_ok N) (gc 44 (fso_slices_Clone_int_ok N) (gc 50 (fs_slices_Equal_int_ok N) (gc 56 (fso_slices_Clone_Ref_ok N) (gc 60 (fs_slices_Equal_Ref_ok N) gn))))) [] mix (Nat.le_of_ble_eq_true rfl) ?_
  simp only [Try.f86]
  unfold turns_validCall at h
  refine Wk_seq (Wk_regionZ fun Z hZ => ?_)
  simp only [go_sem, seval]
  refine hZ _ (pp (Wk_seq (Wk_regionH fun Y hY => ?_)))
  refine RX2_s rfl rfl fun Z hZ => ?_
  simp only [go_sem, seval]
  repeat with_reducible refine and_bar (by kernel_rfl) ?_
  refine hZ _ ?_
  refine RX2_s rfl rfl fun Z hZ => ?_
  simp only [go_sem, seval]
  refine hZ _ ?_
  refine RX2_s rfl rfl fun Z hZ => ?_
  simp only [go_sem, seval]
  refine hZ _ ?_
  refine RX2_s rfl rfl fun Z hZ => ?_
  simp only [go_sem, seval]
  refine hZ _ ?_
  refine RX2_s rfl rfl fun Z hZ => ?_
  simp only [go_sem, seval]
  refine hZ _ ?_
  refine RX2_s rfl rfl fun Z hZ => ?_
  simp only [go_sem, seval]
  refine hZ _ ?_
  refine RX2_w fun Z hZ => ?_
  simp only [go_sem, seval]
  refine hZ _ ?_
  refine RX2_w fun Z hZ => ?_
  simp only [go_sem, seval]
  refine hZ _ ?_
  refine RX2_end (by kernel_rfl) (hY _ (pp (Wk_seq ?_)))
  apply Wk_join1 (fun (c5 : Bool) => ⟨tab 62 (updT (updT (updT (updT (updT deadT 2 (.pref 2 [] 0 0)) 3 (.pref 3 [] 0 0)) 5 (.pref 5 [] 0 0)) 6 (.pref 6 [] 0 0)) 39 (.val (.bool c5))), (upd (upd (upd (upd RZ 2 (.sl true none 2 (some 1) [[.val (.string a0.Type_), .val (.string a0.Key)]])) 3 (.sl true none 30 (some 1) [Turn.row a1])) 5 (.sl true none 9 (some 1) [Request.row a1.Request_])) 6 (.sl true none 9 (some 1) [Request.row a1.Call]))⟩)
  · intro hJ1
    obtain ⟨r6, hr2, h⟩ := Option.bind_eq_some_iff.1 h
    refine Wk_regionZ fun Z hZ => ?_
    simp only [go_sem, seval, hr2]
    refine RX_guard_nbool rfl (fun hc3 => ?_) (fun hc3 => ?_)
    · rw [if_neg (ne_true_of_eq_false hc3)] at h
      simp only [go_sem, seval, hc3]
      refine hZ _ (pp (hJ1 _ true ?_ h))
      refine weak_roots ?_ ?_ <;> repeat' first | exact xn | exact rn | refine xc ?_ ?_ | refine rc ?_ ?_ ?_ | rfl
    rw [if_pos hc3] at h
    simp only [go_sem, seval, hc3]
    refine RX_guard_dec rfl (fun hc4 => ?_) (fun hc4 => ?_)
    · have hc4d := decide_eq_true hc4
      rw [if_pos hc4] at h
      simp only [go_sem, seval, hc4d]
      refine hZ _ (pp (hJ1 _ true ?_ h))
      refine weak_roots ?_ ?_ <;> repeat' first | exact xn | exact rn | refine xc ?_ ?_ | refine rc ?_ ?_ ?_ | rfl
    have hc4d := decide_eq_false hc4
    rw [if_neg hc4] at h
    simp only [go_sem, seval, hc4d]
    refine RX_guard_nbool rfl (fun hc5 => ?_) (fun hc5 => ?_)
    · rw [if_neg (ne_true_of_eq_false hc5)] at h
      simp only [go_sem, seval, hc5]
      refine hZ _ (pp (hJ1 _ true ?_ h))
      refine weak_roots ?_ ?_ <;> repeat' first | exact xn | exact rn | refine xc ?_ ?_ | refine rc ?_ ?_ ?_ | rfl
    rw [if_pos hc5] at h
    simp only [go_sem, seval, hc5]
    refine RX_guard_ndec rfl (fun hc6 => ?_) (fun hc6 => ?_)
    · have hc6d := decide_eq_false hc6
      rw [if_neg hc6] at h
      simp only [go_sem, seval, hc6d]
      refine hZ _ (pp (hJ1 _ true ?_ h))
      refine weak_roots ?_ ?_ <;> repeat' first | exact xn | exact rn | refine xc ?_ ?_ | refine rc ?_ ?_ ?_ | rfl
    have hc6d := decide_eq_true hc6
    rw [if_pos hc6] at h
    simp only [go_sem, seval, hc6d]
    refine hZ _ (pp (hJ1 _ (!decide (a1.Call.Txn = a1.Request_.Txn)) ?_ h))
    refine weak_roots ?_ ?_ <;> repeat' first | exact xn | exact rn | refine xc ?_ ?_ | refine rc ?_ ?_ ?_ | rfl
  intro c5 h
  unfold turns_validCall_J1 at h
  refine Wk_cond_bool rfl (fun hc7 => ?_) (fun hc7 => ?_)
  · rw [if_pos hc7] at h
    refine Wk_seq (Wk_regionZ fun Z hZ => ?_)
    simp only [go_sem, seval, hc7]
    refine hZ _ (pp (Wk_ret (pp ?_)))
    cases h
    simp only [go_sem, seval]
    exact ⟨_, rfl, RokI.h, PureI.h⟩
  rw [if_neg (ne_true_of_eq_false hc7)] at h
  refine Wk_skip (pp ?_)
  unfold turns_validCall_J2 at h
  refine Wk_seq ?_
  obtain ⟨r7, hr8, h⟩ := Option.bind_eq_some_iff.1 h
  obtain ⟨ha9, h⟩ := apx_some h
  simp only [List.length_cons, List.length_nil, Nat.zero_add, Nat.reduceAdd] at ha9
  obtain ⟨r8, hr10, h⟩ := Option.bind_eq_some_iff.1 h
  refine Wk_regionH fun Y hY => ?_
  refine RX2_s rfl rfl fun Z hZ => ?_
  simp only [go_sem, seval, hc7]
  repeat with_reducible refine and_bar (by kernel_rfl) ?_
  refine hZ _ ?_
  refine RX2_s rfl rfl fun Z hZ => ?_
  simp only [go_sem, seval]
  refine hZ _ ?_
  refine RX2_s rfl rfl fun Z hZ => ?_
  simp only [go_sem, seval]
  refine hZ _ ?_
  refine RX2_s rfl rfl fun Z hZ => ?_
  simp only [go_sem, seval]
  refine hZ _ ?_
  refine RX2_s rfl rfl fun Z hZ => ?_
  simp only [go_sem, seval, hr8]
  refine hZ _ ?_
  refine RX2_s rfl rfl fun Z hZ => ?_
  simp only [go_sem, seval]
  refine hZ _ ?_
  refine RX2_s rfl rfl fun Z hZ => ?_
  simp only [go_sem, seval]
  refine hZ _ ?_
  refine RX2_s rfl rfl fun Z hZ => ?_
  simp only [go_sem, seval]
  refine hZ _ ?_
  refine RX2_s rfl rfl fun Z hZ => ?_
  simp only [go_sem, seval]
  refine hZ _ ?_
  refine RX2_a fun Z hZ => ?_
  simp only [go_sem, seval, ha9]
  refine hZ _ ?_
  refine RX2_s rfl rfl fun Z hZ => ?_
  simp only [go_sem, seval, hr10]
  refine hZ _ ?_
  refine RX2_s rfl rfl fun Z hZ => ?_
  simp only [go_sem, seval]
  refine hZ _ ?_
  refine sw (RX2_guard_bool rfl) (fun hc11 => ?_) (fun hc11 => ?_)
  · rw [if_neg (ne_true_of_eq_false hc11)] at h
    refine RX2_norm fun Z hZ => ?_
    simp only [hc11]
    refine hZ _ ?_
    refine RX2_g rfl fun Z hZ => ?_
    simp only [go_sem, seval]
    refine hZ _ ?_
    refine RX2_g rfl fun Z hZ => ?_
    simp only [go_sem, seval]
    refine hZ _ ?_
    refine RX2_g rfl fun Z hZ => ?_
    simp only [go_sem, seval]
    refine hZ _ ?_
    refine RX2_g rfl fun Z hZ => ?_
    simp only [go_sem, seval]
    refine hZ _ ?_
    refine RX2_g rfl fun Z hZ => ?_
    simp only [go_sem, seval]
    refine hZ _ ?_
    refine RX2_g rfl fun Z hZ => ?_
    simp only [go_sem, seval]
    refine hZ _ ?_
    refine RX2_g rfl fun Z hZ => ?_
    simp only [go_sem, seval]
    refine hZ _ ?_
    refine RX2_off rfl fun Z hZ => ?_
    simp only [go_sem, seval]
    refine hZ _ ?_
    refine RX2_g rfl fun Z hZ => ?_
    simp only [go_sem, seval]
    refine hZ _ ?_
    refine RX2_s rfl rfl fun Z hZ => ?_
    simp only [go_sem, seval]
    refine hZ _ ?_
    refine RX2_s rfl rfl fun Z hZ => ?_
    simp only [go_sem, seval]
    refine hZ _ ?_
    refine RX2_end (by kernel_rfl) (hY _ (pp (Wk_ret (pp ?_))))
    cases h
    simp only [go_sem, seval]
    exact ⟨_, rfl, RokI.h, PureI.h⟩
  rw [if_pos hc11] at h
  refine RX2_norm fun Z hZ => ?_
  simp only [hc11]
  refine hZ _ ?_
  obtain ⟨r9, hr12, h⟩ := Option.bind_eq_some_iff.1 h
  obtain ⟨ha13, h⟩ := apx_some h
  simp only [List.length_cons, List.length_nil, Nat.zero_add, Nat.reduceAdd] at ha13
  obtain ⟨r10, hr14, h⟩ := Option.bind_eq_some_iff.1 h
  refine RX2_g rfl fun Z hZ => ?_
  simp only [go_sem, seval]
  repeat with_reducible refine and_bar (by kernel_rfl) ?_
  refine hZ _ ?_
  refine RX2_g rfl fun Z hZ => ?_
  simp only [go_sem, seval]
  refine hZ _ ?_
  refine RX2_g rfl fun Z hZ => ?_
  simp only [go_sem, seval]
  refine hZ _ ?_
  refine RX2_g rfl fun Z hZ => ?_
  simp only [go_sem, seval]
  refine hZ _ ?_
  refine RX2_g rfl fun Z hZ => ?_
  simp only [go_sem, seval, hr12]
  refine hZ _ ?_
  refine RX2_g rfl fun Z hZ => ?_
  simp only [go_sem, seval]
  refine hZ _ ?_
  refine RX2_g rfl fun Z hZ => ?_
  simp only [go_sem, seval]
  refine hZ _ ?_
  refine RX2_ag rfl fun Z hZ => ?_
  simp only [go_sem, seval, ha13]
  refine hZ _ ?_
  refine RX2_g rfl fun Z hZ => ?_
  simp only [go_sem, seval, hr14]
  refine hZ _ ?_
  refine RX2_s rfl rfl fun Z hZ => ?_
  simp only [go_sem, seval]
  refine hZ _ ?_
  refine RX2_s rfl rfl fun Z hZ => ?_
  simp only [go_sem, seval]
  refine hZ _ ?_
  refine RX2_end (by kernel_rfl) (hY _ (pp (Wk_ret (pp ?_))))
  cases h
  simp only [go_sem, seval]
  exact ⟨_, rfl, RokI.h, PureI.h⟩
def fs_turns_validCall (N : Nat) : FnS := ⟨[], true, fn2 Ref.decA Turn.decA fun q0 q1 => (turns_validCall N q0 q1).map fun r => .val (.bool r), false⟩
attribute [go_sem] fs_turns_validCall
theorem fs_turns_validCall_ok (N : Nat) : FSOk Try.prog 86 (fs_turns_validCall N) := ok2 (fun q0 q1 r h => by
  obtain ⟨r', hr, rfl⟩ := Option.map_eq_some_iff.1 h
  exact w_turns_validCall N q0 q1 r' hr) (Ref.decA_le) (Turn.decA_le)


noncomputable def G_turns_ValidReply (N d f : Nat) : Option FnS := glist [(9, 59, fs_turns_validID N), (23, 67, fs_wire_ValidValue N)] d f
attribute [go_sem] G_turns_ValidReply
theorem w_turns_ValidReply (N : Nat) (a0 : Reply) (r : Bool) (h : turns_ValidReply N a0 = some r) : Con Try.prog 19 [] true [.agg (Reply.row a0)] (.val (.bool r)) := by
  refine fun_ok4 (G := (G_turns_ValidReply N)) Try.func19 rfl (by decide) (by kernel_rfl) (gc 9 (fs_turns_validID_ok N) (gc 23 (fs_wire_ValidValue_ok N) gn)) [] mix (Nat.le_of_ble_eq_true rfl) ?_
  simp only [Try.f19]
  unfold turns_ValidReply at h
  refine Wk_seq (Wk_regionZ fun Z hZ => ?_)
  simp only [go_sem, seval]
  refine hZ _ (pp (Wk_seq ?_))
  obtain ⟨r1, hr1, h⟩ := Option.bind_eq_some_iff.1 h
  refine Wk_regionZ fun Z hZ => ?_
  simp only [go_sem, seval, hr1]
  refine sw (RX_guard_bool rfl) (fun hc2 => ?_) (fun hc2 => ?_)
  · rw [if_neg (ne_true_of_eq_false hc2)] at h
    simp only [go_sem, seval, hc2]
    refine hZ _ (pp (Wk_ret (pp ?_)))
    cases h
    simp only [go_sem, seval]
    exact ⟨_, rfl, RokI.h, PureI.h⟩
  rw [if_pos hc2] at h
  simp only [go_sem, seval, hc2]
  refine sw (RX_guard_dec rfl) (fun hc3 => ?_) (fun hc3 => ?_)
  · have hc3d := decide_eq_false hc3
    rw [if_neg hc3] at h
    simp only [go_sem, seval, hc3d]
    refine hZ _ (pp (Wk_ret (pp ?_)))
    cases h
    simp only [go_sem, seval]
    exact ⟨_, rfl, RokI.h, PureI.h⟩
  have hc3d := decide_eq_true hc3
  rw [if_pos hc3] at h
  simp only [go_sem, seval, hc3d]
  refine sw (RX_guard_dec rfl) (fun hc4 => ?_) (fun hc4 => ?_)
  · have hc4d := decide_eq_false hc4
    rw [if_neg hc4] at h
    simp only [go_sem, seval, hc4d]
    refine hZ _ (pp (Wk_ret (pp ?_)))
    cases h
    simp only [go_sem, seval]
    exact ⟨_, rfl, RokI.h, PureI.h⟩
  have hc4d := decide_eq_true hc4
  rw [if_pos hc4] at h
  obtain ⟨r2, hr5, h⟩ := Option.bind_eq_some_iff.1 h
  simp only [go_sem, seval, hc4d, hr5]
  refine sw (RX_guard_bool rfl) (fun hc6 => ?_) (fun hc6 => ?_)
  · rw [if_neg (ne_true_of_eq_false hc6)] at h
    simp only [go_sem, seval, hc6]
    refine hZ _ (pp (Wk_ret (pp ?_)))
    cases h
    simp only [go_sem, seval]
    exact ⟨_, rfl, RokI.h, PureI.h⟩
  rw [if_pos hc6] at h
  simp only [go_sem, seval, hc6]
  refine RX_guard_dec rfl (fun hc7 => ?_) (fun hc7 => ?_)
  · have hc7d := decide_eq_true hc7
    rw [if_pos hc7] at h
    simp only [go_sem, seval, hc7d]
    refine hZ _ (pp (Wk_ret (pp ?_)))
    cases h
    simp only [go_sem, seval]
    exact ⟨_, rfl, RokI.h, PureI.h⟩
  have hc7d := decide_eq_false hc7
  rw [if_neg hc7] at h
  simp only [go_sem, seval, hc7d]
  refine hZ _ (pp (Wk_ret (pp ?_)))
  cases h
  simp only [go_sem, seval]
  exact ⟨_, rfl, RokI.h, PureI.h⟩
def fs_turns_ValidReply (N : Nat) : FnS := ⟨[], true, fn1 Reply.decA fun q0 => (turns_ValidReply N q0).map fun r => .val (.bool r), false⟩
attribute [go_sem] fs_turns_ValidReply
theorem fs_turns_ValidReply_ok (N : Nat) : FSOk Try.prog 19 (fs_turns_ValidReply N) := ok1 (fun q0 r h => by
  obtain ⟨r', hr, rfl⟩ := Option.map_eq_some_iff.1 h
  exact w_turns_ValidReply N q0 r' hr) (Reply.decA_le)


noncomputable def G_turns_SameID (N d f : Nat) : Option FnS := glist [(23, 69, fs_slices_Equal_int N)] d f
attribute [go_sem] G_turns_SameID
theorem w_turns_SameID (N : Nat) (a0 : Request) (a1 : ByteArray) (a2 : Int) (a3 : (List Int)) (r : Bool) (h : turns_SameID N a0 a1 a2 a3 = some r) : Con Try.prog 21 [] true [.agg (Request.row a0), .val (.string a1), .val (.int .i64 a2), .sl false none 1 none (a3.map (rowI .i64))] (.val (.bool r)) := by
  refine fun_ok4 (G := (G_turns_SameID N)) Try.func21 rfl (by decide) (by kernel_rfl) (gc 23 (fs_slices_Equal_int_ok N) gn) [] mix (Nat.le_of_ble_eq_true rfl) ?_
  simp only [Try.f21]
  unfold turns_SameID at h
  refine Wk_seq (Wk_regionZ fun Z hZ => ?_)
  simp only [go_sem, seval]
  refine hZ _ (pp (Wk_seq (Wk_regionZ fun Z hZ => ?_)))
  simp only [go_sem, seval]
  refine sw (RX_guard_bool rfl) (fun hc1 => ?_) (fun hc1 => ?_)
  · rw [if_neg (ne_true_of_eq_false hc1)] at h
    simp only [go_sem, seval, hc1]
    refine hZ _ (pp (Wk_ret (pp ?_)))
    cases h
    simp only [go_sem, seval]
    exact ⟨_, rfl, RokI.h, PureI.h⟩
  rw [if_pos hc1] at h
  simp only [go_sem, seval, hc1]
  refine RX_guard_dec rfl (fun hc2 => ?_) (fun hc2 => ?_)
  · have hc2d := decide_eq_true hc2
    rw [if_pos hc2] at h
    obtain ⟨r1, hr3, h⟩ := Option.bind_eq_some_iff.1 h
    simp only [go_sem, seval, hc2d, hr3]
    refine hZ _ (pp (Wk_ret (pp ?_)))
    cases h
    simp only [go_sem, seval]
    exact ⟨_, rfl, RokI.h, PureI.h⟩
  have hc2d := decide_eq_false hc2
  rw [if_neg hc2] at h
  simp only [go_sem, seval, hc2d]
  refine hZ _ (pp (Wk_ret (pp ?_)))
  cases h
  simp only [go_sem, seval]
  exact ⟨_, rfl, RokI.h, PureI.h⟩
def fs_turns_SameID (N : Nat) : FnS := ⟨[], true, fn4 Request.decA decS (decI .i64) (decL 1 (dec1 (decI .i64))) fun q0 q1 q2 q3 => (turns_SameID N q0 q1 q2 q3).map fun r => .val (.bool r), false⟩
attribute [go_sem] fs_turns_SameID
theorem fs_turns_SameID_ok (N : Nat) : FSOk Try.prog 21 (fs_turns_SameID N) := ok4 (fun q0 q1 q2 q3 r h => by
  obtain ⟨r', hr, rfl⟩ := Option.map_eq_some_iff.1 h
  exact w_turns_SameID N q0 q1 q2 q3 r' hr) (Request.decA_le) (decS_le) (decI_le) (fun h => decL_le (decI1_le .i64) h)


noncomputable def G_turns_validTurn (N d f : Nat) : Option FnS := glist [(7, 17, fs_turns_ValidRequest N), (19, 55, fs_turns_number N), (24, 84, fs_turns_zeroRequest N), (36, 85, fs_turns_zeroReply N), (40, 86, fs_turns_validCall N), (47, 85, fs_turns_zeroReply N), (53, 19, fs_turns_ValidReply N), (67, 21, fs_turns_SameID N)] d f
attribute [go_sem] G_turns_validTurn
theorem w_turns_validTurn (N : Nat) (a0 : Ref) (a1 : Turn) (r : Bool) (h : turns_validTurn N a0 a1 = some r) : Con Try.prog 56 [] true [.agg [.val (.string a0.Type_), .val (.string a0.Key)], .agg (Turn.row a1)] (.val (.bool r)) := by
  refine fun_ok4 (G := (G_turns_validTurn N)) Try.func56 rfl (by decide) (by kernel_rfl) (gc 7 (fs_turns_ValidRequest_ok N) (gc 19 (fs_turns_number_ok N) (gc 24 (fs_turns_zeroRequest_ok N) (gc 36 (fs_turns_zeroReply_ok N) (gc 40 (fs_turns_validCall_ok N) (gc 47 (fs_turns_zeroReply_ok N) (gc 53 (fs_turns_ValidReply_ok N) (gc 67 (fs_turns_SameID_ok N) gn)))))))) [] mix (Nat.le_of_ble_eq_true rfl) ?_
  simp only [Try.f56]
  unfold turns_validTurn at h
  refine Wk_seq (Wk_regionZ fun Z hZ => ?_)
  simp only [go_sem, seval]
  refine hZ _ (pp (Wk_seq ?_))
  apply Wk_join1 (fun (c7 : Bool) => ⟨tab 69 (updT (updT (updT deadT 2 (.pref 2 [] 0 0)) 3 (.pref 3 [] 0 0)) 21 (.val (.bool c7))), (upd (upd RZ 2 (.sl true none 2 (some 1) [[.val (.string a0.Type_), .val (.string a0.Key)]])) 3 (.sl true none 30 (some 1) [Turn.row a1]))⟩)
  · intro hJ1
    obtain ⟨r8, hr2, h⟩ := Option.bind_eq_some_iff.1 h
    refine Wk_regionZ fun Z hZ => ?_
    simp only [go_sem, seval, hr2]
    refine RX_guard_nbool rfl (fun hc3 => ?_) (fun hc3 => ?_)
    · rw [if_neg (ne_true_of_eq_false hc3)] at h
      simp only [go_sem, seval, hc3]
      refine hZ _ (pp (hJ1 _ true ?_ h))
      refine weak_roots ?_ ?_ <;> repeat' first | exact xn | exact rn | refine xc ?_ ?_ | refine rc ?_ ?_ ?_ | rfl
    rw [if_pos hc3] at h
    simp only [go_sem, seval, hc3]
    refine RX_guard_nbool rfl (fun hc4 => ?_) (fun hc4 => ?_)
    · rw [if_neg (ne_true_of_eq_false hc4)] at h
      simp only [go_sem, seval, hc4]
      refine hZ _ (pp (hJ1 _ true ?_ h))
      refine weak_roots ?_ ?_ <;> repeat' first | exact xn | exact rn | refine xc ?_ ?_ | refine rc ?_ ?_ ?_ | rfl
    rw [if_pos hc4] at h
    obtain ⟨r9, hr5, h⟩ := Option.bind_eq_some_iff.1 h
    simp only [go_sem, seval, hc4, hr5]
    refine hZ _ (pp (hJ1 _ (!r9) ?_ h))
    refine weak_roots ?_ ?_ <;> repeat' first | exact xn | exact rn | refine xc ?_ ?_ | refine rc ?_ ?_ ?_ | rfl
  intro c7 h
  unfold turns_validTurn_J1 at h
  refine Wk_cond_bool rfl (fun hc6 => ?_) (fun hc6 => ?_)
  · rw [if_pos hc6] at h
    refine Wk_seq (Wk_regionZ fun Z hZ => ?_)
    simp only [go_sem, seval, hc6]
    refine hZ _ (pp (Wk_ret (pp ?_)))
    cases h
    simp only [go_sem, seval]
    exact ⟨_, rfl, RokI.h, PureI.h⟩
  rw [if_neg (ne_true_of_eq_false hc6)] at h
  refine Wk_skip (pp ?_)
  unfold turns_validTurn_J2 at h
  refine Wk_seq (Wk_seq ?_)
  obtain ⟨r10, hr7, h⟩ := Option.bind_eq_some_iff.1 h
  refine Wk_regionZ fun Z hZ => ?_
  simp only [go_sem, seval, hc6, hr7]
  refine hZ _ (pp (Wk_cond_bool rfl (fun hc8 => ?_) (fun hc8 => ?_)))
  · rw [if_pos hc8] at h
    refine Wk_seq (Wk_regionZ fun Z hZ => ?_)
    simp only [go_sem, seval, hc8]
    refine sw (RX_guard_nbool rfl) (fun hc9 => ?_) (fun hc9 => ?_)
    · rw [if_pos hc9] at h
      simp only [go_sem, seval, hc9]
      refine hZ _ (pp (Wk_ret (pp ?_)))
      cases h
      simp only [go_sem, seval]
      exact ⟨_, rfl, RokI.h, PureI.h⟩
    rw [if_neg (ne_true_of_eq_false hc9)] at h
    simp only [go_sem, seval, hc9]
    refine RX_guard_nbool rfl (fun hc10 => ?_) (fun hc10 => ?_)
    · rw [if_neg (ne_true_of_eq_false hc10)] at h
      obtain ⟨r11, hr11, h⟩ := Option.bind_eq_some_iff.1 h
      simp only [go_sem, seval, hc10, hr11]
      refine hZ _ (pp (Wk_ret (pp ?_)))
      cases h
      simp only [go_sem, seval]
      exact ⟨_, rfl, RokI.h, PureI.h⟩
    rw [if_pos hc10] at h
    simp only [go_sem, seval, hc10]
    refine hZ _ (pp (Wk_ret (pp ?_)))
    cases h
    simp only [go_sem, seval]
    exact ⟨_, rfl, RokI.h, PureI.h⟩
  rw [if_neg (ne_true_of_eq_false hc8)] at h
  refine Wk_skip (pp (Wk_seq (Wk_seq ?_)))
  obtain ⟨r12, hr12, h⟩ := Option.bind_eq_some_iff.1 h
  refine Wk_regionZ fun Z hZ => ?_
  simp only [go_sem, seval, hc8, hr12]
  refine hZ _ (pp (Wk_cond_nbool rfl (fun hc13 => ?_) (fun hc13 => ?_)))
  · rw [if_neg (ne_true_of_eq_false hc13)] at h
    refine Wk_seq (Wk_regionZ fun Z hZ => ?_)
    simp only [go_sem, seval, hc13]
    refine hZ _ (pp (Wk_ret (pp ?_)))
    cases h
    simp only [go_sem, seval]
    exact ⟨_, rfl, RokI.h, PureI.h⟩
  rw [if_pos hc13] at h
  refine Wk_skip (pp (Wk_seq (Wk_seq (Wk_regionZ fun Z hZ => ?_))))
  simp only [go_sem, seval, hc13]
  refine hZ _ (pp (Wk_cond_nbool rfl (fun hc14 => ?_) (fun hc14 => ?_)))
  · rw [if_neg (ne_true_of_eq_false hc14)] at h
    refine Wk_seq ?_
    obtain ⟨r13, hr15, h⟩ := Option.bind_eq_some_iff.1 h
    refine Wk_regionZ fun Z hZ => ?_
    simp only [go_sem, seval, hc14, hr15]
    refine hZ _ (pp (Wk_ret (pp ?_)))
    cases h
    simp only [go_sem, seval]
    exact ⟨_, rfl, RokI.h, PureI.h⟩
  rw [if_pos hc14] at h
  refine Wk_skip (pp (Wk_seq (Wk_regionZ fun Z hZ => ?_)))
  simp only [go_sem, seval, hc14]
  refine sw (RX_guard_bool rfl) (fun hc16 => ?_) (fun hc16 => ?_)
  · rw [if_neg (ne_true_of_eq_false hc16)] at h
    simp only [go_sem, seval, hc16]
    refine hZ _ (pp (Wk_ret (pp ?_)))
    cases h
    simp only [go_sem, seval]
    exact ⟨_, rfl, RokI.h, PureI.h⟩
  rw [if_pos hc16] at h
  obtain ⟨r14, hr17, h⟩ := Option.bind_eq_some_iff.1 h
  simp only [go_sem, seval, hc16, hr17]
  refine RX_guard_bool rfl (fun hc18 => ?_) (fun hc18 => ?_)
  · rw [if_pos hc18] at h
    obtain ⟨r15, hr19, h⟩ := Option.bind_eq_some_iff.1 h
    simp only [go_sem, seval, hc18, hr19]
    refine hZ _ (pp (Wk_ret (pp ?_)))
    cases h
    simp only [go_sem, seval]
    exact ⟨_, rfl, RokI.h, PureI.h⟩
  rw [if_neg (ne_true_of_eq_false hc18)] at h
  simp only [go_sem, seval, hc18]
  refine hZ _ (pp (Wk_ret (pp ?_)))
  cases h
  simp only [go_sem, seval]
  exact ⟨_, rfl, RokI.h, PureI.h⟩
def fs_turns_validTurn (N : Nat) : FnS := ⟨[], true, fn2 Ref.decA Turn.decA fun q0 q1 => (turns_validTurn N q0 q1).map fun r => .val (.bool r), false⟩
attribute [go_sem] fs_turns_validTurn
theorem fs_turns_validTurn_ok (N : Nat) : FSOk Try.prog 56 (fs_turns_validTurn N) := ok2 (fun q0 q1 r h => by
  obtain ⟨r', hr, rfl⟩ := Option.map_eq_some_iff.1 h
  exact w_turns_validTurn N q0 q1 r' hr) (Ref.decA_le) (Turn.decA_le)


noncomputable def G_turns_running (N d f : Nat) : Option FnS := glist [(5, 84, fs_turns_zeroRequest N)] d f
attribute [go_sem] G_turns_running
theorem w_turns_running (N : Nat) (a0 : Turn) (r : Bool) (h : turns_running N a0 = some r) : Con Try.prog 75 [] true [.agg (Turn.row a0)] (.val (.bool r)) := by
  refine fun_ok4 (G := (G_turns_running N)) Try.func75 rfl (by decide) (by kernel_rfl) (gc 5 (fs_turns_zeroRequest_ok N) gn) [] mix (Nat.le_of_ble_eq_true rfl) ?_
  simp only [Try.f75]
  unfold turns_running at h
  refine Wk_seq (Wk_regionZ fun Z hZ => ?_)
  simp only [go_sem, seval]
  refine hZ _ (pp (Wk_seq ?_))
  obtain ⟨r1, hr1, h⟩ := Option.bind_eq_some_iff.1 h
  refine Wk_regionZ fun Z hZ => ?_
  simp only [go_sem, seval, hr1]
  refine hZ _ (pp (Wk_ret (pp ?_)))
  cases h
  simp only [go_sem, seval]
  exact ⟨_, rfl, RokI.h, PureI.h⟩
def fs_turns_running (N : Nat) : FnS := ⟨[], true, fn1 Turn.decA fun q0 => (turns_running N q0).map fun r => .val (.bool r), false⟩
attribute [go_sem] fs_turns_running
theorem fs_turns_running_ok (N : Nat) : FSOk Try.prog 75 (fs_turns_running N) := ok1 (fun q0 r h => by
  obtain ⟨r', hr, rfl⟩ := Option.map_eq_some_iff.1 h
  exact w_turns_running N q0 r' hr) (Turn.decA_le)


noncomputable def G_turns_waits (N d f : Nat) : Option FnS := glist [(4, 75, fs_turns_running N)] d f
attribute [go_sem] G_turns_waits
theorem w_turns_waits (N : Nat) (a0 : Turn) (r : Bool) (h : turns_waits N a0 = some r) : Con Try.prog 57 [] true [.agg (Turn.row a0)] (.val (.bool r)) := by
  refine fun_ok4 (G := (G_turns_waits N)) Try.func57 rfl (by decide) (by kernel_rfl) (gc 4 (fs_turns_running_ok N) gn) [] mix (Nat.le_of_ble_eq_true rfl) ?_
  simp only [Try.f57]
  unfold turns_waits at h
  refine Wk_seq (Wk_regionZ fun Z hZ => ?_)
  simp only [go_sem, seval]
  refine hZ _ (pp (Wk_seq ?_))
  obtain ⟨r1, hr1, h⟩ := Option.bind_eq_some_iff.1 h
  refine Wk_regionZ fun Z hZ => ?_
  simp only [go_sem, seval, hr1]
  refine sw (RX_guard_nbool rfl) (fun hc2 => ?_) (fun hc2 => ?_)
  · rw [if_pos hc2] at h
    simp only [go_sem, seval, hc2]
    refine hZ _ (pp (Wk_ret (pp ?_)))
    cases h
    simp only [go_sem, seval]
    exact ⟨_, rfl, RokI.h, PureI.h⟩
  rw [if_neg (ne_true_of_eq_false hc2)] at h
  simp only [go_sem, seval, hc2]
  refine RX_guard_bool rfl (fun hc3 => ?_) (fun hc3 => ?_)
  · rw [if_pos hc3] at h
    simp only [go_sem, seval, hc3]
    refine hZ _ (pp (Wk_ret (pp ?_)))
    cases h
    simp only [go_sem, seval]
    exact ⟨_, rfl, RokI.h, PureI.h⟩
  rw [if_neg (ne_true_of_eq_false hc3)] at h
  simp only [go_sem, seval, hc3]
  refine hZ _ (pp (Wk_ret (pp ?_)))
  cases h
  simp only [go_sem, seval]
  exact ⟨_, rfl, RokI.h, PureI.h⟩
def fs_turns_waits (N : Nat) : FnS := ⟨[], true, fn1 Turn.decA fun q0 => (turns_waits N q0).map fun r => .val (.bool r), false⟩
attribute [go_sem] fs_turns_waits
theorem fs_turns_waits_ok (N : Nat) : FSOk Try.prog 57 (fs_turns_waits N) := ok1 (fun q0 r h => by
  obtain ⟨r', hr, rfl⟩ := Option.map_eq_some_iff.1 h
  exact w_turns_waits N q0 r' hr) (Turn.decA_le)


noncomputable def G_turns_Descends (N d f : Nat) : Option FnS := glist [(35, 69, fs_slices_Equal_int N)] d f
attribute [go_sem] G_turns_Descends
theorem w_turns_Descends (N : Nat) (a0 : Request) (a1 : Request) (r : Bool) (h : turns_Descends N a0 a1 = some r) : Con Try.prog 23 [] true [.agg (Request.row a0), .agg (Request.row a1)] (.val (.bool r)) := by
  refine fun_ok4 (G := (G_turns_Descends N)) Try.func23 rfl (by decide) (by kernel_rfl) (gc 35 (fs_slices_Equal_int_ok N) gn) [] mix (Nat.le_of_ble_eq_true rfl) ?_
  simp only [Try.f23]
  unfold turns_Descends at h
  refine Wk_seq (Wk_regionZ fun Z hZ => ?_)
  simp only [go_sem, seval]
  refine hZ _ (pp (Wk_seq (Wk_regionD fun Z hZ => ?_)))
  simp only [go_sem, seval]
  refine sw (RX_guard_bool rfl) (fun hc1 => ?_) (fun hc1 => ?_)
  · rw [if_neg (ne_true_of_eq_false hc1)] at h
    simp only [go_sem, seval, hc1]
    refine hZ _ (by kernel_rfl) (pp (Wk_ret (pp ?_)))
    cases h
    simp only [go_sem, seval]
    exact ⟨_, rfl, RokI.h, PureI.h⟩
  rw [if_pos hc1] at h
  simp only [go_sem, seval, hc1]
  refine sw (RX_guard_dec rfl) (fun hc2 => ?_) (fun hc2 => ?_)
  · have hc2d := decide_eq_false hc2
    rw [if_neg hc2] at h
    simp only [go_sem, seval, hc2d]
    refine hZ _ (by kernel_rfl) (pp (Wk_ret (pp ?_)))
    cases h
    simp only [go_sem, seval]
    exact ⟨_, rfl, RokI.h, PureI.h⟩
  have hc2d := decide_eq_true hc2
  rw [if_pos hc2] at h
  simp only [go_sem, seval, hc2d]
  repeat with_reducible refine and_bar (by kernel_rfl) ?_
  refine sw (RX_guard_dec rfl) (fun hc3 => ?_) (fun hc3 => ?_)
  · have hc3d := decide_eq_false hc3
    rw [if_neg hc3] at h
    simp only [go_sem, seval, hc3d]
    refine hZ _ (by kernel_rfl) (pp (Wk_ret (pp ?_)))
    cases h
    simp only [go_sem, seval]
    exact ⟨_, rfl, RokI.h, PureI.h⟩
  have hc3d := decide_eq_true hc3
  rw [if_pos hc3] at h
  obtain ⟨hs4, h⟩ := slx_some h
  try simp only [Int.toNat_natCast, Int.toNat_zero, Nat.sub_zero, List.drop_zero] at hs4 h
  obtain ⟨r1, hr5, h⟩ := Option.bind_eq_some_iff.1 h
  simp only [go_sem, seval, hc3d, hs4, Nat.sub_zero, hr5]
  repeat with_reducible refine and_bar (by kernel_rfl) ?_
  refine hZ _ (by kernel_rfl) (pp (Wk_ret (pp ?_)))
  cases h
  simp only [go_sem, seval]
  exact ⟨_, rfl, RokI.h, PureI.h⟩
def fs_turns_Descends (N : Nat) : FnS := ⟨[], true, fn2 Request.decA Request.decA fun q0 q1 => (turns_Descends N q0 q1).map fun r => .val (.bool r), false⟩
attribute [go_sem] fs_turns_Descends
theorem fs_turns_Descends_ok (N : Nat) : FSOk Try.prog 23 (fs_turns_Descends N) := ok2 (fun q0 q1 r h => by
  obtain ⟨r', hr, rfl⟩ := Option.map_eq_some_iff.1 h
  exact w_turns_Descends N q0 q1 r' hr) (Request.decA_le) (Request.decA_le)


noncomputable def G_turns_Valid (N d f : Nat) : Option FnS := glist [(8, 54, fs_directory_ValidRef N), (13, 55, fs_turns_number N), (33, 56, fs_turns_validTurn N), (44, 57, fs_turns_waits N), (51, 23, fs_turns_Descends N)] d f
attribute [go_sem] G_turns_Valid
theorem w_turns_Valid (N : Nat) (a0 : Actor) (r : Bool) (h : turns_Valid N a0 = some r) : Con Try.prog 15 [] true [.agg (Actor.row a0)] (.val (.bool r)) := by
  refine fun_ok4 (G := (G_turns_Valid N)) Try.func15 rfl (by decide) (by kernel_rfl) (gc 8 (fs_directory_ValidRef_ok N) (gc 13 (fs_turns_number_ok N) (gc 33 (fs_turns_validTurn_ok N) (gc 44 (fs_turns_waits_ok N) (gc 51 (fs_turns_Descends_ok N) gn))))) [] mix (Nat.le_of_ble_eq_true rfl) ?_
  simp only [Try.f15]
  unfold turns_Valid at h
  refine Wk_seq (Wk_regionZ fun Z hZ => ?_)
  simp only [go_sem, seval]
  refine hZ _ (pp (Wk_seq ?_))
  apply Wk_join1 (fun (c7 : Bool) => ⟨tab 55 (updT (updT deadT 1 (.pref 1 [] 0 0)) 21 (.val (.bool c7))), (upd RZ 1 (.sl true none 4 (some 1) [Actor.row a0]))⟩)
  · intro hJ1
    obtain ⟨r8, hr2, h⟩ := Option.bind_eq_some_iff.1 h
    refine Wk_regionZ fun Z hZ => ?_
    simp only [go_sem, seval, hr2]
    refine RX_guard_nbool rfl (fun hc3 => ?_) (fun hc3 => ?_)
    · rw [if_neg (ne_true_of_eq_false hc3)] at h
      simp only [go_sem, seval, hc3]
      refine hZ _ (pp (hJ1 _ true ?_ h))
      refine weak_roots ?_ ?_ <;> repeat' first | exact xn | exact rn | refine xc ?_ ?_ | refine rc ?_ ?_ ?_ | rfl
    rw [if_pos hc3] at h
    obtain ⟨r9, hr4, h⟩ := Option.bind_eq_some_iff.1 h
    simp only [go_sem, seval, hc3, hr4]
    refine RX_guard_nbool rfl (fun hc5 => ?_) (fun hc5 => ?_)
    · rw [if_neg (ne_true_of_eq_false hc5)] at h
      simp only [go_sem, seval, hc5]
      refine hZ _ (pp (hJ1 _ true ?_ h))
      refine weak_roots ?_ ?_ <;> repeat' first | exact xn | exact rn | refine xc ?_ ?_ | refine rc ?_ ?_ ?_ | rfl
    rw [if_pos hc5] at h
    simp only [go_sem, seval, hc5]
    refine hZ _ (pp (hJ1 _ (decide (9 < ((a0.Stack.length : Nat) : Int))) ?_ h))
    refine weak_roots ?_ ?_ <;> repeat' first | exact xn | exact rn | refine xc ?_ ?_ | refine rc ?_ ?_ ?_ | rfl
  intro c7 h
  unfold turns_Valid_J1 at h
  refine Wk_cond_bool rfl (fun hc6 => ?_) (fun hc6 => ?_)
  · rw [if_pos hc6] at h
    refine Wk_seq (Wk_regionZ fun Z hZ => ?_)
    simp only [go_sem, seval, hc6]
    refine hZ _ (pp (Wk_ret (pp ?_)))
    cases h
    simp only [go_sem, seval]
    exact ⟨_, rfl, RokI.h, PureI.h⟩
  rw [if_neg (ne_true_of_eq_false hc6)] at h
  refine Wk_skip (pp ?_)
  unfold turns_Valid_J3 at h
  refine Wk_seq (Wk_seq (Wk_regionZ fun Z hZ => ?_))
  simp only [go_sem, seval, hc6]
  refine hZ _ (pp (Wk_block (Wk_real fun hreal8 => ?_)))
  have hl7 := hreal8.lenT 23 (by decide) (by simp only [go_sem, seval]; rfl)
  rw [List.length_map] at hl7
  refine Wk_range (fun (v7 : Nat) (b : Unit) => ⟨tab 55 (updT (updT (updT (updT deadT 1 (.pref 1 [] 0 0)) 23 (.sl false none 30 none (a0.Stack.map Turn.row))) 24 (.val (.int .i64 ((a0.Stack.length : Nat) : Int)))) 25 (.val (.int .i64 ((v7 : Nat) : Int)))), (upd RZ 1 (.sl true none 4 (some 1) [Actor.row a0]))⟩) () h ?_ ?_
  · refine weak_roots ?_ ?_ <;> repeat' first | exact xn | exact rn | refine xc ?_ ?_ | refine rc ?_ ?_ ?_ | rfl
  rintro v7 ⟨⟩ hi9 h -
  rcases (drop_cases a0.Stack v7 hi9).symm with ⟨hi9', _, hd12⟩ | ⟨x10, hi9', hx10, hd12⟩
  · rw [hd12] at h
    simp only [turns_Valid_L1] at h
    refine Wk_seq (Wk_regionZ fun Z hZ => ?_)
    simp only [go_sem, seval, hi9']
    refine hZ _ (pp (Wk_seq ?_))
    try simp only [Int.ofNat_lt, hi9', if_true, if_false] at h
    refine Wk_cond_f rfl (Wk_exit (pp (Wk_seq (Wk_regionZ fun Z hZ => ?_))))
    simp only [go_sem, seval]
    refine hZ _ (pp (Wk_ret (pp ?_)))
    cases h
    simp only [go_sem, seval]
    exact ⟨_, rfl, RokI.h, PureI.h⟩
  rw [hd12] at h
  simp only [turns_Valid_L1] at h
  have hw11 := wrap_succ hi9' hl7
  refine Wk_seq (Wk_regionZ fun Z hZ => ?_)
  simp only [go_sem, seval, hi9']
  refine hZ _ (pp (Wk_seq ?_))
  try simp only [Int.ofNat_lt, hi9', if_true, if_false] at h
  refine Wk_cond_t rfl (Wk_skip (pp (Wk_seq (Wk_block (Wk_seq ?_)))))
  try rw [gx_nat hx10] at h
  refine Wk_regionZ fun Z hZ => ?_
  simp only [go_sem, seval, hx10, hi9']
  refine hZ _ (pp (Wk_seq (Wk_seq ?_)))
  obtain ⟨r10, hr13, h⟩ := Option.bind_eq_some_iff.1 h
  refine Wk_regionZ fun Z hZ => ?_
  simp only [go_sem, seval, hr13]
  refine hZ _ (pp (Wk_cond_nbool rfl (fun hc14 => ?_) (fun hc14 => ?_)))
  · rw [if_neg (ne_true_of_eq_false hc14)] at h
    refine Wk_seq (Wk_regionZ fun Z hZ => ?_)
    simp only [go_sem, seval, hc14]
    refine hZ _ (pp (Wk_ret (pp ?_)))
    cases h
    simp only [go_sem, seval]
    exact ⟨_, rfl, RokI.h, PureI.h⟩
  rw [if_pos hc14] at h
  refine Wk_skip (pp (Wk_seq (Wk_seq (Wk_regionZ fun Z hZ => ?_))))
  simp only [go_sem, seval, hc14]
  refine hZ _ (pp (Wk_cond_dec rfl (fun hc15 => ?_) (fun hc15 => ?_)))
  · have hc15d := decide_eq_true hc15
    rw [if_pos hc15] at h
    refine Wk_exit (pp (Wk_regionZ fun Z hZ => ?_))
    simp only [go_sem, seval, hw11, hc15d]
    refine hZ _ (pp ?_)
    first | refine ⟨(), ?_, h⟩ | refine ⟨hi9', (), ?_, h⟩
    refine weak_roots ?_ ?_ <;> repeat' first | exact xn | exact rn | refine xc ?_ ?_ | refine rc ?_ ?_ ?_ | rfl
  have hc15d := decide_eq_false hc15
  rw [if_neg hc15] at h
  refine Wk_skip (pp (Wk_seq ?_))
  obtain ⟨x11, hb16, hx17, h⟩ := gx_some h
  refine Wk_regionZ fun Z hZ => ?_
  simp only [go_sem, seval, hc15d, hb16, hx17]
  refine hZ _ (pp ?_)
  apply Wk_join1 (fun (c14 : Bool) => ⟨tab 55 (updT (updT (updT (updT (updT deadT 1 (.pref 1 [] 0 0)) 23 (.sl false none 30 none (a0.Stack.map Turn.row))) 24 (.val (.int .i64 ((a0.Stack.length : Nat) : Int)))) 25 (.val (.int .i64 ((v7 : Nat) : Int)))) 53 (.val (.bool c14))), (upd RZ 1 (.sl true none 4 (some 1) [Actor.row a0]))⟩)
  · intro hJ18
    obtain ⟨r15, hr19, h⟩ := Option.bind_eq_some_iff.1 h
    refine Wk_regionZ fun Z hZ => ?_
    simp only [go_sem, seval, hr19]
    refine RX_guard_nbool rfl (fun hc20 => ?_) (fun hc20 => ?_)
    · rw [if_neg (ne_true_of_eq_false hc20)] at h
      simp only [go_sem, seval, hc20]
      refine hZ _ (pp (hJ18 _ true ?_ h))
      refine weak_roots ?_ ?_ <;> repeat' first | exact xn | exact rn | refine xc ?_ ?_ | refine rc ?_ ?_ ?_ | rfl
    rw [if_pos hc20] at h
    obtain ⟨r16, hr21, h⟩ := Option.bind_eq_some_iff.1 h
    simp only [go_sem, seval, hc20, hr21]
    refine hZ _ (pp (hJ18 _ (!r16) ?_ h))
    refine weak_roots ?_ ?_ <;> repeat' first | exact xn | exact rn | refine xc ?_ ?_ | refine rc ?_ ?_ ?_ | rfl
  intro c14 h
  unfold turns_Valid_J2 at h
  refine Wk_cond_bool rfl (fun hc22 => ?_) (fun hc22 => ?_)
  · rw [if_pos hc22] at h
    refine Wk_seq (Wk_regionZ fun Z hZ => ?_)
    simp only [go_sem, seval, hc22]
    refine hZ _ (pp (Wk_ret (pp ?_)))
    cases h
    simp only [go_sem, seval]
    exact ⟨_, rfl, RokI.h, PureI.h⟩
  rw [if_neg (ne_true_of_eq_false hc22)] at h
  refine Wk_skip (pp (Wk_regionZ fun Z hZ => ?_))
  simp only [go_sem, seval, hw11, hc22]
  refine hZ _ (pp ?_)
  first | refine ⟨(), ?_, h⟩ | refine ⟨hi9', (), ?_, h⟩
  refine weak_roots ?_ ?_ <;> repeat' first | exact xn | exact rn | refine xc ?_ ?_ | refine rc ?_ ?_ ?_ | rfl
def fs_turns_Valid (N : Nat) : FnS := ⟨[], true, fn1 Actor.decA fun q0 => (turns_Valid N q0).map fun r => .val (.bool r), false⟩
attribute [go_sem] fs_turns_Valid
theorem fs_turns_Valid_ok (N : Nat) : FSOk Try.prog 15 (fs_turns_Valid N) := ok1 (fun q0 r h => by
  obtain ⟨r', hr, rfl⟩ := Option.map_eq_some_iff.1 h
  exact w_turns_Valid N q0 r' hr) (Actor.decA_le)


noncomputable def G_turns_Admits_1 (N d f : Nat) : Option FnS := glist [(12, 21, fs_turns_SameID N)] d f
attribute [go_sem] G_turns_Admits_1
theorem w_turns_Admits_1 (N : Nat) (a0 : Turn) (c0_0 : ByteArray) (c0_1 : Int) (c0_2 : (List Int)) (c0_3 : ByteArray) (c0_4 : ByteArray) (c0_5 : ByteArray) (c0_6 : (List Value)) (c0_7 : (List Ref)) (c0_8 : Int) (r : Bool) (h : turns_Admits_1 N a0 c0_0 c0_1 c0_2 c0_3 c0_4 c0_5 c0_6 c0_7 c0_8 = some r) : Con Try.prog 77 [] true [.agg (Turn.row a0), .iref 9 [[.val (.string c0_0), .val (.int .i64 c0_1), .sl false none 1 none (c0_2.map (rowI .i64)), .val (.string c0_3), .val (.string c0_4), .val (.string c0_5), .sl false none 5 none (c0_6.map Value.row), .sl false none 2 none (c0_7.map Ref.row), .val (.int .i64 c0_8)]] 0 0] (.val (.bool r)) := by
  refine fun_ok4 (G := (G_turns_Admits_1 N)) Try.func77 rfl (by decide) (by kernel_rfl) (gc 12 (fs_turns_SameID_ok N) gn) [] mix (Nat.le_of_ble_eq_true rfl) ?_
  simp only [Try.f77]
  unfold turns_Admits_1 at h
  refine Wk_seq (Wk_regionZ fun Z hZ => ?_)
  simp only [go_sem, seval]
  refine hZ _ (pp (Wk_seq ?_))
  obtain ⟨r1, hr1, h⟩ := Option.bind_eq_some_iff.1 h
  refine Wk_regionZ fun Z hZ => ?_
  simp only [go_sem, seval, hr1]
  refine hZ _ (pp (Wk_ret (pp ?_)))
  cases h
  simp only [go_sem, seval]
  exact ⟨_, rfl, RokI.h, PureI.h⟩
def fs_turns_Admits_1 (N : Nat) : FnS := { own := [], pure := true, fn := fun cs => match cs with
  | [c0, .iref 9 [[c1_0, c1_1, c1_2, c1_3, c1_4, c1_5, c1_6, c1_7, c1_8]] 0 0] => (Turn.decA c0).bind fun qc0 => (decS c1_0).bind fun qc1_0 => ((decI .i64) c1_1).bind fun qc1_1 => ((decL 1 (dec1 (decI .i64))) c1_2).bind fun qc1_2 => (decS c1_3).bind fun qc1_3 => (decS c1_4).bind fun qc1_4 => (decS c1_5).bind fun qc1_5 => ((decL 5 Value.dec) c1_6).bind fun qc1_6 => ((decL 2 Ref.dec) c1_7).bind fun qc1_7 => ((decI .i64) c1_8).bind fun qc1_8 => (turns_Admits_1 N qc0 qc1_0 qc1_1 qc1_2 qc1_3 qc1_4 qc1_5 qc1_6 qc1_7 qc1_8).map fun r => .val (.bool r)
  | _ => none }
attribute [go_sem] fs_turns_Admits_1
theorem fs_turns_Admits_1_ok (N : Nat) : FSOk Try.prog 77 (fs_turns_Admits_1 N) := by
  refine ⟨fun cs r h => ?_, fun h => by cases h⟩
  simp only [fs_turns_Admits_1] at h
  split at h
  · simp only [Option.bind_eq_some_iff, Option.map_eq_some_iff] at h
    obtain ⟨q0, h0, q1, h1, q2, h2, q3, h3, q4, h4, q5, h5, q6, h6, q7, h7, q8, h8, q9, h9, r', hr, rfl⟩ := h
    exact ((w_turns_Admits_1 N q0 q1 q2 q3 q4 q5 q6 q7 q8 q9 r' hr).args (LeL.cons (Turn.decA_le h0) (LeL.cons (Le.iref1 (LeL.cons (decS_le h1) (LeL.cons (decI_le h2) (LeL.cons (decL_le (decI1_le .i64) h3) (LeL.cons (decS_le h4) (LeL.cons (decS_le h5) (LeL.cons (decS_le h6) (LeL.cons (decL_le Value.dec_le h7) (LeL.cons (decL_le Ref.dec_le h8) (LeL.cons (decI_le h9) (LeL.nil))))))))))) (LeL.nil))))
  · cases h


noncomputable def G_slices_IndexFunc_Turn_turns_Admits_1 (N d f : Nat) : Option FnS := glist [(16, 77, fs_turns_Admits_1 N)] d f
attribute [go_sem] G_slices_IndexFunc_Turn_turns_Admits_1
theorem w_slices_IndexFunc_Turn_turns_Admits_1 (N : Nat) (a0 : (List Turn)) (k1_0_0 : ByteArray) (k1_0_1 : Int) (k1_0_2 : (List Int)) (k1_0_3 : ByteArray) (k1_0_4 : ByteArray) (k1_0_5 : ByteArray) (k1_0_6 : (List Value)) (k1_0_7 : (List Ref)) (k1_0_8 : Int) (r : Int) (h : slices_IndexFunc_Turn_turns_Admits_1 N a0 k1_0_0 k1_0_1 k1_0_2 k1_0_3 k1_0_4 k1_0_5 k1_0_6 k1_0_7 k1_0_8 = some r) : Con Try.prog 94 [] true [.sl false none 30 none (a0.map Turn.row), .clo 77 [.iref 9 [[.val (.string k1_0_0), .val (.int .i64 k1_0_1), .sl false none 1 none (k1_0_2.map (rowI .i64)), .val (.string k1_0_3), .val (.string k1_0_4), .val (.string k1_0_5), .sl false none 5 none (k1_0_6.map Value.row), .sl false none 2 none (k1_0_7.map Ref.row), .val (.int .i64 k1_0_8)]] 0 0]] (.val (.int .i64 r)) := by
  refine fun_ok4 (G := (G_slices_IndexFunc_Turn_turns_Admits_1 N)) Try.func94 rfl (by decide) (by kernel_rfl) (gc 16 (fs_turns_Admits_1_ok N) gn) [] mix (Nat.le_of_ble_eq_true rfl) ?_
  simp only [Try.f94]
  unfold slices_IndexFunc_Turn_turns_Admits_1 at h
  refine Wk_seq (Wk_regionZ fun Z hZ => ?_)
  simp only [go_sem, seval]
  refine hZ _ (pp (Wk_seq (Wk_seq (Wk_regionZ fun Z hZ => ?_))))
  simp only [go_sem, seval]
  refine hZ _ (pp (Wk_block (Wk_real fun hreal2 => ?_)))
  have hl1 := hreal2.lenT 0 (by decide) (by simp only [go_sem, seval]; rfl)
  rw [List.length_map] at hl1
  refine Wk_range (fun (v2 : Nat) (b : Unit) => ⟨tab 19 (updT (updT (updT (updT deadT 0 (.sl false none 30 none (a0.map Turn.row))) 1 (.clo 77 [.iref 9 [[.val (.string k1_0_0), .val (.int .i64 k1_0_1), .sl false none 1 none (k1_0_2.map (rowI .i64)), .val (.string k1_0_3), .val (.string k1_0_4), .val (.string k1_0_5), .sl false none 5 none (k1_0_6.map Value.row), .sl false none 2 none (k1_0_7.map Ref.row), .val (.int .i64 k1_0_8)]] 0 0])) 7 (.val (.int .i64 ((a0.length : Nat) : Int)))) 8 (.val (.int .i64 ((v2 : Nat) : Int)))), RZ⟩) () h ?_ ?_
  · refine weak_roots ?_ ?_ <;> repeat' first | exact xn | exact rn | refine xc ?_ ?_ | refine rc ?_ ?_ ?_ | rfl
  rintro v2 ⟨⟩ hi3 h -
  rcases (drop_cases a0 v2 hi3).symm with ⟨hi3', _, hd6⟩ | ⟨x5, hi3', hx4, hd6⟩
  · rw [hd6] at h
    simp only [slices_IndexFunc_Turn_turns_Admits_1_L1] at h
    refine Wk_seq (Wk_regionZ fun Z hZ => ?_)
    simp only [go_sem, seval, hi3']
    refine hZ _ (pp (Wk_seq ?_))
    try simp only [Int.ofNat_lt, hi3', if_true, if_false] at h
    refine Wk_cond_f rfl (Wk_exit (pp (Wk_seq (Wk_regionZ fun Z hZ => ?_))))
    simp only [go_sem, seval]
    refine hZ _ (pp (Wk_ret (pp ?_)))
    cases h
    simp only [go_sem, seval]
    exact ⟨_, rfl, RokI.h, PureI.h⟩
  rw [hd6] at h
  simp only [slices_IndexFunc_Turn_turns_Admits_1_L1] at h
  have hw5 := wrap_succ hi3' hl1
  refine Wk_seq (Wk_regionZ fun Z hZ => ?_)
  simp only [go_sem, seval, hi3']
  refine hZ _ (pp (Wk_seq ?_))
  try simp only [Int.ofNat_lt, hi3', if_true, if_false] at h
  refine Wk_cond_t rfl (Wk_skip (pp (Wk_seq (Wk_block (Wk_seq (Wk_regionZ fun Z hZ => ?_))))))
  simp only [go_sem, seval]
  refine hZ _ (pp (Wk_seq ?_))
  try rw [gx_nat hx4] at h
  obtain ⟨r1, hr7, h⟩ := Option.bind_eq_some_iff.1 h
  refine Wk_regionZ fun Z hZ => ?_
  simp only [go_sem, seval, hx4, hi3', hr7]
  refine hZ _ (pp (Wk_cond_bool rfl (fun hc8 => ?_) (fun hc8 => ?_)))
  · rw [if_pos hc8] at h
    refine Wk_seq (Wk_regionZ fun Z hZ => ?_)
    simp only [go_sem, seval, hc8]
    refine hZ _ (pp (Wk_ret (pp ?_)))
    cases h
    simp only [go_sem, seval]
    exact ⟨_, rfl, RokI.h, PureI.h⟩
  rw [if_neg (ne_true_of_eq_false hc8)] at h
  refine Wk_skip (pp (Wk_regionZ fun Z hZ => ?_))
  simp only [go_sem, seval, hw5, hc8]
  refine hZ _ (pp ?_)
  first | refine ⟨(), ?_, h⟩ | refine ⟨hi3', (), ?_, h⟩
  refine weak_roots ?_ ?_ <;> repeat' first | exact xn | exact rn | refine xc ?_ ?_ | refine rc ?_ ?_ ?_ | rfl
def fs_slices_IndexFunc_Turn_turns_Admits_1 (N : Nat) : FnS := { own := [], pure := true, fn := fun cs => match cs with
  | [c0, .clo 77 [.iref 9 [[k1_0_0, k1_0_1, k1_0_2, k1_0_3, k1_0_4, k1_0_5, k1_0_6, k1_0_7, k1_0_8]] 0 0]] => ((decL 30 Turn.dec) c0).bind fun qc0 => (decS k1_0_0).bind fun qk1_0_0 => ((decI .i64) k1_0_1).bind fun qk1_0_1 => ((decL 1 (dec1 (decI .i64))) k1_0_2).bind fun qk1_0_2 => (decS k1_0_3).bind fun qk1_0_3 => (decS k1_0_4).bind fun qk1_0_4 => (decS k1_0_5).bind fun qk1_0_5 => ((decL 5 Value.dec) k1_0_6).bind fun qk1_0_6 => ((decL 2 Ref.dec) k1_0_7).bind fun qk1_0_7 => ((decI .i64) k1_0_8).bind fun qk1_0_8 => (slices_IndexFunc_Turn_turns_Admits_1 N qc0 qk1_0_0 qk1_0_1 qk1_0_2 qk1_0_3 qk1_0_4 qk1_0_5 qk1_0_6 qk1_0_7 qk1_0_8).map fun r => .val (.int .i64 r)
  | _ => none }
attribute [go_sem] fs_slices_IndexFunc_Turn_turns_Admits_1
theorem fs_slices_IndexFunc_Turn_turns_Admits_1_ok (N : Nat) : FSOk Try.prog 94 (fs_slices_IndexFunc_Turn_turns_Admits_1 N) := by
  refine ⟨fun cs r h => ?_, fun h => by cases h⟩
  simp only [fs_slices_IndexFunc_Turn_turns_Admits_1] at h
  split at h
  · simp only [Option.bind_eq_some_iff, Option.map_eq_some_iff] at h
    obtain ⟨q0, h0, q1, h1, q2, h2, q3, h3, q4, h4, q5, h5, q6, h6, q7, h7, q8, h8, q9, h9, r', hr, rfl⟩ := h
    exact ((w_slices_IndexFunc_Turn_turns_Admits_1 N q0 q1 q2 q3 q4 q5 q6 q7 q8 q9 r' hr).args (LeL.cons (decL_le Turn.dec_le h0) (LeL.cons (Le.clo (LeL.cons (Le.iref1 (LeL.cons (decS_le h1) (LeL.cons (decI_le h2) (LeL.cons (decL_le (decI1_le .i64) h3) (LeL.cons (decS_le h4) (LeL.cons (decS_le h5) (LeL.cons (decS_le h6) (LeL.cons (decL_le Value.dec_le h7) (LeL.cons (decL_le Ref.dec_le h8) (LeL.cons (decI_le h9) (LeL.nil))))))))))) (LeL.nil))) (LeL.nil))))
  · cases h


noncomputable def G_slices_ContainsFunc_Turn_turns_Admits_1 (N d f : Nat) : Option FnS := glist [(7, 94, fs_slices_IndexFunc_Turn_turns_Admits_1 N)] d f
attribute [go_sem] G_slices_ContainsFunc_Turn_turns_Admits_1
theorem w_slices_ContainsFunc_Turn_turns_Admits_1 (N : Nat) (a0 : (List Turn)) (k1_0_0 : ByteArray) (k1_0_1 : Int) (k1_0_2 : (List Int)) (k1_0_3 : ByteArray) (k1_0_4 : ByteArray) (k1_0_5 : ByteArray) (k1_0_6 : (List Value)) (k1_0_7 : (List Ref)) (k1_0_8 : Int) (r : Bool) (h : slices_ContainsFunc_Turn_turns_Admits_1 N a0 k1_0_0 k1_0_1 k1_0_2 k1_0_3 k1_0_4 k1_0_5 k1_0_6 k1_0_7 k1_0_8 = some r) : Con Try.prog 76 [] true [.sl false none 30 none (a0.map Turn.row), .clo 77 [.iref 9 [[.val (.string k1_0_0), .val (.int .i64 k1_0_1), .sl false none 1 none (k1_0_2.map (rowI .i64)), .val (.string k1_0_3), .val (.string k1_0_4), .val (.string k1_0_5), .sl false none 5 none (k1_0_6.map Value.row), .sl false none 2 none (k1_0_7.map Ref.row), .val (.int .i64 k1_0_8)]] 0 0]] (.val (.bool r)) := by
  refine fun_ok4 (G := (G_slices_ContainsFunc_Turn_turns_Admits_1 N)) Try.func76 rfl (by decide) (by kernel_rfl) (gc 7 (fs_slices_IndexFunc_Turn_turns_Admits_1_ok N) gn) [] mix (Nat.le_of_ble_eq_true rfl) ?_
  simp only [Try.f76]
  unfold slices_ContainsFunc_Turn_turns_Admits_1 at h
  refine Wk_seq (Wk_regionZ fun Z hZ => ?_)
  simp only [go_sem, seval]
  refine hZ _ (pp (Wk_seq ?_))
  obtain ⟨r1, hr1, h⟩ := Option.bind_eq_some_iff.1 h
  refine Wk_regionZ fun Z hZ => ?_
  simp only [go_sem, seval, hr1]
  refine hZ _ (pp (Wk_ret (pp ?_)))
  cases h
  simp only [go_sem, seval]
  exact ⟨_, rfl, RokI.h, PureI.h⟩
def fs_slices_ContainsFunc_Turn_turns_Admits_1 (N : Nat) : FnS := { own := [], pure := true, fn := fun cs => match cs with
  | [c0, .clo 77 [.iref 9 [[k1_0_0, k1_0_1, k1_0_2, k1_0_3, k1_0_4, k1_0_5, k1_0_6, k1_0_7, k1_0_8]] 0 0]] => ((decL 30 Turn.dec) c0).bind fun qc0 => (decS k1_0_0).bind fun qk1_0_0 => ((decI .i64) k1_0_1).bind fun qk1_0_1 => ((decL 1 (dec1 (decI .i64))) k1_0_2).bind fun qk1_0_2 => (decS k1_0_3).bind fun qk1_0_3 => (decS k1_0_4).bind fun qk1_0_4 => (decS k1_0_5).bind fun qk1_0_5 => ((decL 5 Value.dec) k1_0_6).bind fun qk1_0_6 => ((decL 2 Ref.dec) k1_0_7).bind fun qk1_0_7 => ((decI .i64) k1_0_8).bind fun qk1_0_8 => (slices_ContainsFunc_Turn_turns_Admits_1 N qc0 qk1_0_0 qk1_0_1 qk1_0_2 qk1_0_3 qk1_0_4 qk1_0_5 qk1_0_6 qk1_0_7 qk1_0_8).map fun r => .val (.bool r)
  | _ => none }
attribute [go_sem] fs_slices_ContainsFunc_Turn_turns_Admits_1
theorem fs_slices_ContainsFunc_Turn_turns_Admits_1_ok (N : Nat) : FSOk Try.prog 76 (fs_slices_ContainsFunc_Turn_turns_Admits_1 N) := by
  refine ⟨fun cs r h => ?_, fun h => by cases h⟩
  simp only [fs_slices_ContainsFunc_Turn_turns_Admits_1] at h
  split at h
  · simp only [Option.bind_eq_some_iff, Option.map_eq_some_iff] at h
    obtain ⟨q0, h0, q1, h1, q2, h2, q3, h3, q4, h4, q5, h5, q6, h6, q7, h7, q8, h8, q9, h9, r', hr, rfl⟩ := h
    exact ((w_slices_ContainsFunc_Turn_turns_Admits_1 N q0 q1 q2 q3 q4 q5 q6 q7 q8 q9 r' hr).args (LeL.cons (decL_le Turn.dec_le h0) (LeL.cons (Le.clo (LeL.cons (Le.iref1 (LeL.cons (decS_le h1) (LeL.cons (decI_le h2) (LeL.cons (decL_le (decI1_le .i64) h3) (LeL.cons (decS_le h4) (LeL.cons (decS_le h5) (LeL.cons (decS_le h6) (LeL.cons (decL_le Value.dec_le h7) (LeL.cons (decL_le Ref.dec_le h8) (LeL.cons (decI_le h9) (LeL.nil))))))))))) (LeL.nil))) (LeL.nil))))
  · cases h


theorem w_turns_top (N : Nat) (a0 : Actor) (r : Turn × Bool) (h : turns_top N a0 = some r) : Con Try.prog 74 [] false [.agg (Actor.row a0)] (.tup [.agg (Turn.row r.1), .val (.bool r.2)]) := by
  refine fun_ok4 (G := (glist [])) Try.func74 rfl (by decide) (by kernel_rfl) gn [] mix (Nat.le_of_ble_eq_true rfl) ?_
  simp only [Try.f74]
  unfold turns_top at h
  refine Wk_seq (Wk_regionZ fun Z hZ => ?_)
  simp only [go_sem, seval]
  refine hZ _ (pp (Wk_seq (Wk_seq (Wk_regionZ fun Z hZ => ?_))))
  simp only [go_sem, seval]
  refine hZ _ (pp (Wk_cond_dec rfl (fun hc1 => ?_) (fun hc1 => ?_)))
  · have hc1d := decide_eq_true hc1
    rw [if_pos hc1] at h
    refine Wk_seq (Wk_regionZ fun Z hZ => ?_)
    simp only [go_sem, seval, hc1d]
    refine hZ _ (pp (Wk_ret (pp ?_)))
    cases h
    simp only [go_sem, seval]
    exact ⟨_, rfl, RokI.h⟩
  have hc1d := decide_eq_false hc1
  rw [if_neg hc1] at h
  refine Wk_skip (pp (Wk_seq ?_))
  obtain ⟨x1, hb2, hx3, h⟩ := gx_some h
  refine Wk_regionZ fun Z hZ => ?_
  simp only [go_sem, seval, hc1d, hb2, hx3]
  refine hZ _ (pp (Wk_ret (pp ?_)))
  cases h
  simp only [go_sem, seval]
  exact ⟨_, rfl, RokI.h⟩
def fs_turns_top (N : Nat) : FnS := ⟨[], false, fn1 Actor.decA fun q0 => (turns_top N q0).map fun r => .tup [.agg (Turn.row r.1), .val (.bool r.2)], false⟩
attribute [go_sem] fs_turns_top
theorem fs_turns_top_ok (N : Nat) : FSOk Try.prog 74 (fs_turns_top N) := ok1 (fun q0 r h => by
  obtain ⟨r', hr, rfl⟩ := Option.map_eq_some_iff.1 h
  exact w_turns_top N q0 r' hr) (Actor.decA_le)


noncomputable def G_turns_Admits (N d f : Nat) : Option FnS := glist [(8, 15, fs_turns_Valid N), (12, 17, fs_turns_ValidRequest N), (25, 76, fs_slices_ContainsFunc_Turn_turns_Admits_1 N), (28, 74, fs_turns_top N), (34, 57, fs_turns_waits N), (39, 23, fs_turns_Descends N)] d f
attribute [go_sem] G_turns_Admits
theorem w_turns_Admits (N : Nat) (a0 : Actor) (a1 : Request) (r : Int) (h : turns_Admits N a0 a1 = some r) : Con Try.prog 33 [] true [.agg (Actor.row a0), .agg (Request.row a1)] (.val (.int .i64 r)) := by
  refine fun_ok4 (G := (G_turns_Admits N)) Try.func33 rfl (by decide) (by kernel_rfl) (gc 8 (fs_turns_Valid_ok N) (gc 12 (fs_turns_ValidRequest_ok N) (gc 25 (fs_slices_ContainsFunc_Turn_turns_Admits_1_ok N) (gc 28 (fs_turns_top_ok N) (gc 34 (fs_turns_waits_ok N) (gc 39 (fs_turns_Descends_ok N) gn)))))) [] mix (Nat.le_of_ble_eq_true rfl) ?_
  simp only [Try.f33]
  unfold turns_Admits at h
  refine Wk_seq (Wk_regionZ fun Z hZ => ?_)
  simp only [go_sem, seval]
  refine hZ _ (pp (Wk_seq ?_))
  apply Wk_join1 (fun (c7 : Bool) => ⟨tab 47 (updT (updT (updT deadT 2 (.pref 2 [] 0 0)) 3 (.pref 3 [] 0 0)) 21 (.val (.bool c7))), (upd (upd RZ 2 (.sl true none 4 (some 1) [Actor.row a0])) 3 (.sl true none 9 (some 1) [Request.row a1]))⟩)
  · intro hJ1
    obtain ⟨r8, hr2, h⟩ := Option.bind_eq_some_iff.1 h
    refine Wk_regionZ fun Z hZ => ?_
    simp only [go_sem, seval, hr2]
    refine RX_guard_nbool rfl (fun hc3 => ?_) (fun hc3 => ?_)
    · rw [if_neg (ne_true_of_eq_false hc3)] at h
      simp only [go_sem, seval, hc3]
      refine hZ _ (pp (hJ1 _ true ?_ h))
      refine weak_roots ?_ ?_ <;> repeat' first | exact xn | exact rn | refine xc ?_ ?_ | refine rc ?_ ?_ ?_ | rfl
    rw [if_pos hc3] at h
    obtain ⟨r9, hr4, h⟩ := Option.bind_eq_some_iff.1 h
    simp only [go_sem, seval, hc3, hr4]
    refine RX_guard_nbool rfl (fun hc5 => ?_) (fun hc5 => ?_)
    · rw [if_neg (ne_true_of_eq_false hc5)] at h
      simp only [go_sem, seval, hc5]
      refine hZ _ (pp (hJ1 _ true ?_ h))
      refine weak_roots ?_ ?_ <;> repeat' first | exact xn | exact rn | refine xc ?_ ?_ | refine rc ?_ ?_ ?_ | rfl
    rw [if_pos hc5] at h
    simp only [go_sem, seval, hc5]
    refine hZ _ (pp (hJ1 _ (!(sEq a1.Target.Type_ a0.Self.Type_ && sEq a1.Target.Key a0.Self.Key)) ?_ h))
    refine weak_roots ?_ ?_ <;> repeat' first | exact xn | exact rn | refine xc ?_ ?_ | refine rc ?_ ?_ ?_ | rfl
  intro c7 h
  unfold turns_Admits_J1 at h
  refine Wk_cond_bool rfl (fun hc6 => ?_) (fun hc6 => ?_)
  · rw [if_pos hc6] at h
    refine Wk_seq (Wk_regionZ fun Z hZ => ?_)
    simp only [go_sem, seval, hc6]
    refine hZ _ (pp (Wk_ret (pp ?_)))
    cases h
    simp only [go_sem, seval]
    exact ⟨_, rfl, RokI.h, PureI.h⟩
  rw [if_neg (ne_true_of_eq_false hc6)] at h
  refine Wk_skip (pp ?_)
  unfold turns_Admits_J4 at h
  refine Wk_seq (Wk_seq ?_)
  obtain ⟨r10, hr7, h⟩ := Option.bind_eq_some_iff.1 h
  refine Wk_regionZ fun Z hZ => ?_
  simp only [go_sem, seval, hc6, hr7]
  refine hZ _ (pp (Wk_cond_bool rfl (fun hc8 => ?_) (fun hc8 => ?_)))
  · rw [if_pos hc8] at h
    refine Wk_seq (Wk_regionZ fun Z hZ => ?_)
    simp only [go_sem, seval, hc8]
    refine hZ _ (pp (Wk_ret (pp ?_)))
    cases h
    simp only [go_sem, seval]
    exact ⟨_, rfl, RokI.h, PureI.h⟩
  rw [if_neg (ne_true_of_eq_false hc8)] at h
  refine Wk_skip (pp (Wk_seq (Wk_seq ?_)))
  obtain ⟨r16, hr9, h⟩ := Option.bind_eq_some_iff.1 h
  refine Wk_regionZ fun Z hZ => ?_
  simp only [go_sem, seval, hc8, hr9]
  refine hZ _ (pp ?_)
  apply Wk_join1 (fun (c19 : Bool) => ⟨tab 47 (updT (updT deadT 2 (.pref 2 [] 0 0)) 42 (.val (.bool c19))), (upd RZ 2 (.sl true none 4 (some 1) [Actor.row a0]))⟩)
  · intro hJ10
    refine Wk_regionZ fun Z hZ => ?_
    simp only [go_sem, seval]
    refine sw (RX_guard_bool rfl) (fun hc11 => ?_) (fun hc11 => ?_)
    · rw [if_neg (ne_true_of_eq_false hc11)] at h
      simp only [go_sem, seval, hc11]
      refine hZ _ (pp (hJ10 _ false ?_ h))
      refine weak_roots ?_ ?_ <;> repeat' first | exact xn | exact rn | refine xc ?_ ?_ | refine rc ?_ ?_ ?_ | rfl
    rw [if_pos hc11] at h
    obtain ⟨r20, hr12, h⟩ := Option.bind_eq_some_iff.1 h
    simp only [go_sem, seval, hc11, hr12]
    refine RX_guard_bool rfl (fun hc13 => ?_) (fun hc13 => ?_)
    · rw [if_pos hc13] at h
      obtain ⟨r21, hr14, h⟩ := Option.bind_eq_some_iff.1 h
      simp only [go_sem, seval, hc13, hr14]
      refine hZ _ (pp (hJ10 _ (!r21) ?_ h))
      refine weak_roots ?_ ?_ <;> repeat' first | exact xn | exact rn | refine xc ?_ ?_ | refine rc ?_ ?_ ?_ | rfl
    rw [if_neg (ne_true_of_eq_false hc13)] at h
    simp only [go_sem, seval, hc13]
    refine hZ _ (pp (hJ10 _ true ?_ h))
    refine weak_roots ?_ ?_ <;> repeat' first | exact xn | exact rn | refine xc ?_ ?_ | refine rc ?_ ?_ ?_ | rfl
  intro c19 h
  unfold turns_Admits_J2 at h
  refine Wk_cond_bool rfl (fun hc15 => ?_) (fun hc15 => ?_)
  · rw [if_pos hc15] at h
    refine Wk_seq (Wk_regionZ fun Z hZ => ?_)
    simp only [go_sem, seval, hc15]
    refine hZ _ (pp (Wk_ret (pp ?_)))
    cases h
    simp only [go_sem, seval]
    exact ⟨_, rfl, RokI.h, PureI.h⟩
  rw [if_neg (ne_true_of_eq_false hc15)] at h
  refine Wk_skip (pp ?_)
  unfold turns_Admits_J3 at h
  refine Wk_seq (Wk_seq (Wk_regionZ fun Z hZ => ?_))
  simp only [go_sem, seval, hc15]
  refine hZ _ (pp (Wk_cond_dec rfl (fun hc16 => ?_) (fun hc16 => ?_)))
  · have hc16d := decide_eq_true hc16
    rw [if_pos hc16] at h
    refine Wk_seq (Wk_regionZ fun Z hZ => ?_)
    simp only [go_sem, seval, hc16d]
    refine hZ _ (pp (Wk_ret (pp ?_)))
    cases h
    simp only [go_sem, seval]
    exact ⟨_, rfl, RokI.h, PureI.h⟩
  have hc16d := decide_eq_false hc16
  rw [if_neg hc16] at h
  refine Wk_skip (pp (Wk_seq (Wk_regionZ fun Z hZ => ?_)))
  simp only [go_sem, seval, hc16d]
  refine hZ _ (pp (Wk_ret (pp ?_)))
  cases h
  simp only [go_sem, seval]
  exact ⟨_, rfl, RokI.h, PureI.h⟩
def fs_turns_Admits (N : Nat) : FnS := ⟨[], true, fn2 Actor.decA Request.decA fun q0 q1 => (turns_Admits N q0 q1).map fun r => .val (.int .i64 r), false⟩
attribute [go_sem] fs_turns_Admits
theorem fs_turns_Admits_ok (N : Nat) : FSOk Try.prog 33 (fs_turns_Admits N) := ok2 (fun q0 q1 r h => by
  obtain ⟨r', hr, rfl⟩ := Option.map_eq_some_iff.1 h
  exact w_turns_Admits N q0 q1 r' hr) (Actor.decA_le) (Request.decA_le)


theorem w_slices_Clone_Turn_nn (N : Nat) (a0 : (List Turn)) (r : (List Turn)) (h : slices_Clone_Turn N a0 = some r) : Con Try.prog 101 [] false [.sl false (some false) 30 none (a0.map Turn.row)] (.sl true none 30 none (r.map Turn.row)) := by
  refine fun_ok4 (G := (glist [])) Try.func101 rfl (by decide) (by kernel_rfl) gn [] mix (Nat.le_of_ble_eq_true rfl) ?_
  simp only [Try.f101]
  unfold slices_Clone_Turn at h
  refine Wk_seq (Wk_regionZ fun Z hZ => ?_)
  simp only [go_sem, seval]
  refine hZ _ (pp (Wk_seq (Wk_seq (Wk_regionZ fun Z hZ => ?_))))
  simp only [go_sem, seval]
  refine hZ _ (pp (Wk_cond_f rfl ?_))
  first | rw [if_pos (rfl : true = true)] at h | rw [if_neg Bool.false_ne_true] at h | skip
  refine Wk_skip (pp (Wk_seq ?_))
  first | obtain ⟨ha1, h⟩ := apn_some h | (obtain ⟨ha1, h⟩ := apx_some h; rw [List.nil_append] at h)
  simp only [Nat.reduceAdd] at ha1
  refine Wk_regionZ fun Z hZ => ?_
  simp only [go_sem, seval, ha1]
  refine hZ _ (pp (Wk_ret (pp ?_)))
  cases h
  simp only [go_sem, seval]
  exact ⟨_, rfl, RokI.h⟩
theorem w_slices_Clone_Turn_nil (N : Nat)  (r : (List Turn)) (h : slices_Clone_Turn N [] = some r) : Con Try.prog 101 [] false [.val (.slice none 0 0)] (.sl true none 30 none (r.map Turn.row)) := by
  refine fun_ok4 (G := (glist [])) Try.func101 rfl (by decide) (by kernel_rfl) gn [] mix (Nat.le_of_ble_eq_true rfl) ?_
  simp only [Try.f101]
  unfold slices_Clone_Turn at h
  refine Wk_seq (Wk_regionZ fun Z hZ => ?_)
  simp only [go_sem, seval]
  refine hZ _ (pp (Wk_seq (Wk_seq (Wk_regionZ fun Z hZ => ?_))))
  simp only [go_sem, seval]
  refine hZ _ (pp (Wk_cond_t rfl ?_))
  first | rw [if_pos (rfl : true = true)] at h | rw [if_neg Bool.false_ne_true] at h | skip
  refine Wk_seq (Wk_regionZ fun Z hZ => ?_)
  simp only [go_sem, seval]
  refine hZ _ (pp (Wk_ret (pp ?_)))
  obtain rfl : r = [] := by simpa [apn] using h.symm
  simp only [go_sem, seval]
  exact ⟨_, rfl, RokI.h⟩
theorem w_slices_Clone_Turn (N : Nat) (a0 : (List Turn)) (r : (List Turn)) (h : slices_Clone_Turn N a0 = some r) : Con Try.prog 101 [] false [.sl false none 30 none (a0.map Turn.row)] (.sl true none 30 none (r.map Turn.row)) :=
  Con_nl (fun e => by obtain rfl : a0 = [] := List.map_eq_nil_iff.1 e; exact w_slices_Clone_Turn_nil N r h) (w_slices_Clone_Turn_nn N a0 r h)
def fs_slices_Clone_Turn (N : Nat) : FnS := ⟨[], false, fn1 (decL 30 Turn.dec) fun q0 => (slices_Clone_Turn N q0).map fun r => .sl false none 30 none (r.map Turn.row), false⟩
attribute [go_sem] fs_slices_Clone_Turn
theorem fs_slices_Clone_Turn_ok (N : Nat) : FSOk Try.prog 101 (fs_slices_Clone_Turn N) := ok1 (fun q0 r h => by
  obtain ⟨r', hr, rfl⟩ := Option.map_eq_some_iff.1 h
  exact (w_slices_Clone_Turn N q0 r' hr).res (by (try simp only [go_sem]); exact RokI.h)) (fun h => decL_le Turn.dec_le h)

def fso_slices_Clone_Turn (N : Nat) : FnS := ⟨[], false, fn1 (decL 30 Turn.dec) fun q0 => (slices_Clone_Turn N q0).map fun r => .sl true none 30 none (r.map Turn.row), false⟩
attribute [go_sem] fso_slices_Clone_Turn
theorem fso_slices_Clone_Turn_ok (N : Nat) : FSOk Try.prog 101 (fso_slices_Clone_Turn N) := ok1 (fun q0 r h => by
  obtain ⟨r', hr, rfl⟩ := Option.map_eq_some_iff.1 h
  exact w_slices_Clone_Turn N q0 r' hr) (fun h => decL_le Turn.dec_le h)


theorem w_slices_Clone_Value_nn (N : Nat) (a0 : (List Value)) (r : (List Value)) (h : slices_Clone_Value N a0 = some r) : Con Try.prog 96 [] false [.sl false (some false) 5 none (a0.map Value.row)] (.sl true none 5 none (r.map Value.row)) := by
  refine fun_ok4 (G := (glist [])) Try.func96 rfl (by decide) (by kernel_rfl) gn [] mix (Nat.le_of_ble_eq_true rfl) ?_
  simp only [Try.f96]
  unfold slices_Clone_Value at h
  refine Wk_seq (Wk_regionZ fun Z hZ => ?_)
  simp only [go_sem, seval]
  refine hZ _ (pp (Wk_seq (Wk_seq (Wk_regionZ fun Z hZ => ?_))))
  simp only [go_sem, seval]
  refine hZ _ (pp (Wk_cond_f rfl ?_))
  first | rw [if_pos (rfl : true = true)] at h | rw [if_neg Bool.false_ne_true] at h | skip
  refine Wk_skip (pp (Wk_seq ?_))
  first | obtain ⟨ha1, h⟩ := apn_some h | (obtain ⟨ha1, h⟩ := apx_some h; rw [List.nil_append] at h)
  simp only [Nat.reduceAdd] at ha1
  refine Wk_regionZ fun Z hZ => ?_
  simp only [go_sem, seval, ha1]
  refine hZ _ (pp (Wk_ret (pp ?_)))
  cases h
  simp only [go_sem, seval]
  exact ⟨_, rfl, RokI.h⟩
theorem w_slices_Clone_Value_nil (N : Nat)  (r : (List Value)) (h : slices_Clone_Value N [] = some r) : Con Try.prog 96 [] false [.val (.slice none 0 0)] (.sl true none 5 none (r.map Value.row)) := by
  refine fun_ok4 (G := (glist [])) Try.func96 rfl (by decide) (by kernel_rfl) gn [] mix (Nat.le_of_ble_eq_true rfl) ?_
  simp only [Try.f96]
  unfold slices_Clone_Value at h
  refine Wk_seq (Wk_regionZ fun Z hZ => ?_)
  simp only [go_sem, seval]
  refine hZ _ (pp (Wk_seq (Wk_seq (Wk_regionZ fun Z hZ => ?_))))
  simp only [go_sem, seval]
  refine hZ _ (pp (Wk_cond_t rfl ?_))
  first | rw [if_pos (rfl : true = true)] at h | rw [if_neg Bool.false_ne_true] at h | skip
  refine Wk_seq (Wk_regionZ fun Z hZ => ?_)
  simp only [go_sem, seval]
  refine hZ _ (pp (Wk_ret (pp ?_)))
  obtain rfl : r = [] := by simpa [apn] using h.symm
  simp only [go_sem, seval]
  exact ⟨_, rfl, RokI.h⟩
theorem w_slices_Clone_Value (N : Nat) (a0 : (List Value)) (r : (List Value)) (h : slices_Clone_Value N a0 = some r) : Con Try.prog 96 [] false [.sl false none 5 none (a0.map Value.row)] (.sl true none 5 none (r.map Value.row)) :=
  Con_nl (fun e => by obtain rfl : a0 = [] := List.map_eq_nil_iff.1 e; exact w_slices_Clone_Value_nil N r h) (w_slices_Clone_Value_nn N a0 r h)
def fs_slices_Clone_Value (N : Nat) : FnS := ⟨[], false, fn1 (decL 5 Value.dec) fun q0 => (slices_Clone_Value N q0).map fun r => .sl false none 5 none (r.map Value.row), false⟩
attribute [go_sem] fs_slices_Clone_Value
theorem fs_slices_Clone_Value_ok (N : Nat) : FSOk Try.prog 96 (fs_slices_Clone_Value N) := ok1 (fun q0 r h => by
  obtain ⟨r', hr, rfl⟩ := Option.map_eq_some_iff.1 h
  exact (w_slices_Clone_Value N q0 r' hr).res (by (try simp only [go_sem]); exact RokI.h)) (fun h => decL_le Value.dec_le h)

def fso_slices_Clone_Value (N : Nat) : FnS := ⟨[], false, fn1 (decL 5 Value.dec) fun q0 => (slices_Clone_Value N q0).map fun r => .sl true none 5 none (r.map Value.row), false⟩
attribute [go_sem] fso_slices_Clone_Value
theorem fso_slices_Clone_Value_ok (N : Nat) : FSOk Try.prog 96 (fso_slices_Clone_Value N) := ok1 (fun q0 r h => by
  obtain ⟨r', hr, rfl⟩ := Option.map_eq_some_iff.1 h
  exact w_slices_Clone_Value N q0 r' hr) (fun h => decL_le Value.dec_le h)


theorem w_slices_Clone_string_nn (N : Nat) (a0 : (List ByteArray)) (r : (List ByteArray)) (h : slices_Clone_string N a0 = some r) : Con Try.prog 95 [] true [.sl false (some false) 1 none (a0.map rowS)] (.sl true none 1 none (r.map rowS)) := by
  refine fun_ok4 (G := (glist [])) Try.func95 rfl (by decide) (by kernel_rfl) gn [] mix (Nat.le_of_ble_eq_true rfl) ?_
  simp only [Try.f95]
  unfold slices_Clone_string at h
  refine Wk_seq (Wk_regionZ fun Z hZ => ?_)
  simp only [go_sem, seval]
  refine hZ _ (pp (Wk_seq (Wk_seq (Wk_regionZ fun Z hZ => ?_))))
  simp only [go_sem, seval]
  refine hZ _ (pp (Wk_cond_f rfl ?_))
  first | rw [if_pos (rfl : true = true)] at h | rw [if_neg Bool.false_ne_true] at h | skip
  refine Wk_skip (pp (Wk_seq ?_))
  first | obtain ⟨ha1, h⟩ := apn_some h | (obtain ⟨ha1, h⟩ := apx_some h; rw [List.nil_append] at h)
  simp only [Nat.reduceAdd] at ha1
  refine Wk_regionZ fun Z hZ => ?_
  simp only [go_sem, seval, ha1]
  refine hZ _ (pp (Wk_ret (pp ?_)))
  cases h
  simp only [go_sem, seval]
  exact ⟨_, rfl, RokI.h, PureI.h⟩
theorem w_slices_Clone_string_nil (N : Nat)  (r : (List ByteArray)) (h : slices_Clone_string N [] = some r) : Con Try.prog 95 [] true [.val (.slice none 0 0)] (.sl true none 1 none (r.map rowS)) := by
  refine fun_ok4 (G := (glist [])) Try.func95 rfl (by decide) (by kernel_rfl) gn [] mix (Nat.le_of_ble_eq_true rfl) ?_
  simp only [Try.f95]
  unfold slices_Clone_string at h
  refine Wk_seq (Wk_regionZ fun Z hZ => ?_)
  simp only [go_sem, seval]
  refine hZ _ (pp (Wk_seq (Wk_seq (Wk_regionZ fun Z hZ => ?_))))
  simp only [go_sem, seval]
  refine hZ _ (pp (Wk_cond_t rfl ?_))
  first | rw [if_pos (rfl : true = true)] at h | rw [if_neg Bool.false_ne_true] at h | skip
  refine Wk_seq (Wk_regionZ fun Z hZ => ?_)
  simp only [go_sem, seval]
  refine hZ _ (pp (Wk_ret (pp ?_)))
  obtain rfl : r = [] := by simpa [apn] using h.symm
  simp only [go_sem, seval]
  exact ⟨_, rfl, RokI.h, PureI.h⟩
theorem w_slices_Clone_string (N : Nat) (a0 : (List ByteArray)) (r : (List ByteArray)) (h : slices_Clone_string N a0 = some r) : Con Try.prog 95 [] true [.sl false none 1 none (a0.map rowS)] (.sl true none 1 none (r.map rowS)) :=
  Con_nl (fun e => by obtain rfl : a0 = [] := List.map_eq_nil_iff.1 e; exact w_slices_Clone_string_nil N r h) (w_slices_Clone_string_nn N a0 r h)
def fs_slices_Clone_string (N : Nat) : FnS := ⟨[], true, fn1 (decL 1 (dec1 decS)) fun q0 => (slices_Clone_string N q0).map fun r => .sl false none 1 none (r.map rowS), false⟩
attribute [go_sem] fs_slices_Clone_string
theorem fs_slices_Clone_string_ok (N : Nat) : FSOk Try.prog 95 (fs_slices_Clone_string N) := ok1 (fun q0 r h => by
  obtain ⟨r', hr, rfl⟩ := Option.map_eq_some_iff.1 h
  exact (w_slices_Clone_string N q0 r' hr).res (by (try simp only [go_sem]); exact RokI.h)) (fun h => decL_le decS1_le h)

def fso_slices_Clone_string (N : Nat) : FnS := ⟨[], true, fn1 (decL 1 (dec1 decS)) fun q0 => (slices_Clone_string N q0).map fun r => .sl true none 1 none (r.map rowS), false⟩
attribute [go_sem] fso_slices_Clone_string
theorem fso_slices_Clone_string_ok (N : Nat) : FSOk Try.prog 95 (fso_slices_Clone_string N) := ok1 (fun q0 r h => by
  obtain ⟨r', hr, rfl⟩ := Option.map_eq_some_iff.1 h
  exact w_slices_Clone_string N q0 r' hr) (fun h => decL_le decS1_le h)


noncomputable def G_turns_cloneValues (N d f : Nat) : Option FnS := glist [(6, 96, fso_slices_Clone_Value N), (21, 82, fs_slices_Clone_int N), (27, 95, fs_slices_Clone_string N)] d f
attribute [go_sem] G_turns_cloneValues
theorem w_turns_cloneValues (N : Nat) (a0 : (List Value)) (r : (List Value)) (h : turns_cloneValues N a0 = some r) : Con Try.prog 81 [] false [.sl false none 5 none (a0.map Value.row)] (.sl true none 5 none (r.map Value.row)) := by
  refine fun_ok4 (G := (G_turns_cloneValues N)) Try.func81 rfl (by decide) (by kernel_rfl) (gc 6 (fso_slices_Clone_Value_ok N) (gc 21 (fs_slices_Clone_int_ok N) (gc 27 (fs_slices_Clone_string_ok N) gn))) [] mix (Nat.le_of_ble_eq_true rfl) ?_
  simp only [Try.f81]
  unfold turns_cloneValues at h
  refine Wk_seq (Wk_regionZ fun Z hZ => ?_)
  simp only [go_sem, seval]
  refine hZ _ (pp (Wk_seq ?_))
  obtain ⟨r1, hr1, h⟩ := Option.bind_eq_some_iff.1 h
  refine Wk_regionZ fun Z hZ => ?_
  simp only [go_sem, seval, hr1]
  refine hZ _ (pp (Wk_seq (Wk_seq (Wk_regionZ fun Z hZ => ?_))))
  simp only [go_sem, seval]
  refine hZ _ (pp (Wk_block (Wk_real fun hreal3 => ?_)))
  have hl2 := hreal3.lenX 6 (by simp only [go_sem, seval]; rfl)
  rw [List.length_map] at hl2
  refine Wk_count (fun (v4 : Nat) (b : List Value) => ⟨tab 34 (updT (updT (updT deadT 3 (.pal 6 [] 0 b.length none)) 8 (.val (.int .i64 ((r1.length : Nat) : Int)))) 9 (.val (.int .i64 ((v4 : Nat) : Int)))), (upd RZ 6 (.sl true none 5 none (b.map Value.row)))⟩) r1 h ?_ ?_
  · refine weak_roots ?_ ?_ <;> repeat' first | exact xn | exact rn | refine xc ?_ ?_ | refine rc ?_ ?_ ?_ | rfl | simp only [go_sem, seval, Bool.or_self, List.length_set, Int.natCast_zero, Int.cast_ofNat_Int, hr1]
  rintro v4 l3 _ h -
  rcases (count_cases r1.length v4).symm with ⟨hi4', hd7⟩ | ⟨hi4', hd7⟩
  · rw [hd7] at h
    simp only [turns_cloneValues_L1] at h
    refine Wk_seq (Wk_regionZ fun Z hZ => ?_)
    simp only [go_sem, seval, hi4']
    refine hZ _ (pp (Wk_seq ?_))
    try simp only [Int.ofNat_lt, hi4', if_true, if_false] at h
    refine Wk_cond_f rfl (Wk_exit (pp (Wk_seq (Wk_regionZ fun Z hZ => ?_))))
    simp only [go_sem, seval]
    refine hZ _ (pp (Wk_ret (pp ?_)))
    cases h
    simp only [go_sem, seval]
    exact ⟨_, rfl, RokI.h⟩
  rw [hd7] at h
  simp only [turns_cloneValues_L1] at h
  have hw6 := wrap_succ hi4' hl2
  refine Wk_seq (Wk_regionZ fun Z hZ => ?_)
  simp only [go_sem, seval, hi4']
  refine hZ _ (pp (Wk_seq ?_))
  try simp only [Int.ofNat_lt, hi4', if_true, if_false] at h
  refine Wk_cond_t rfl (Wk_skip (pp (Wk_seq (Wk_block (Wk_seq (Wk_regionZ fun Z hZ => ?_))))))
  simp only [go_sem, seval]
  refine hZ _ (pp ?_)
  obtain ⟨x2, hb8, hx9, h⟩ := gx_some h
  try simp only [Int.toNat_natCast] at hx9
  try simp only [Int.ofNat_lt, Int.natCast_nonneg, true_and] at hb8
  obtain ⟨r3, hr10, h⟩ := Option.bind_eq_some_iff.1 h
  obtain ⟨r4, hr11, h⟩ := Option.bind_eq_some_iff.1 h
  have hx13 := set_get (y := (Value.mk x2.Kind x2.N x2.S r3 x2.L)) hx9
  have hx15 := set_get (y := (Value.mk x2.Kind x2.N x2.S r3 r4)) hx9
  refine Wk_regionD fun Z hZ => ?_
  simp only [go_sem, seval, hb8, hx9, hr10, hr11, map_modify2 (row := Value.row) (y := (Value.mk x2.Kind x2.N x2.S r3 x2.L)) (rx := [.val (.int .i64 x2.Kind), .val (.int .i64 x2.N), .val (.string x2.S), .sl false none 1 none (x2.I.map (rowI .i64)), .sl false none 1 none (x2.L.map rowS)]) (ry := [.val (.int .i64 x2.Kind), .val (.int .i64 x2.N), .val (.string x2.S), .sl false none 1 none (r3.map (rowI .i64)), .sl false none 1 none (x2.L.map rowS)]) hx9 rfl rfl, hx13, map_modify3 (row := Value.row) (y0 := (Value.mk x2.Kind x2.N x2.S r3 x2.L)) (y := (Value.mk x2.Kind x2.N x2.S r3 r4)) (rx := [.val (.int .i64 x2.Kind), .val (.int .i64 x2.N), .val (.string x2.S), .sl false none 1 none (r3.map (rowI .i64)), .sl false none 1 none (x2.L.map rowS)]) (ry := [.val (.int .i64 x2.Kind), .val (.int .i64 x2.N), .val (.string x2.S), .sl false none 1 none (r3.map (rowI .i64)), .sl false none 1 none (r4.map rowS)]) hx9 rfl rfl]
  repeat with_reducible refine and_bar (by kernel_rfl) ?_
  refine hZ _ (by kernel_rfl) (pp (Wk_regionZ fun Z hZ => ?_))
  simp only [go_sem, seval, hw6]
  refine hZ _ (pp ?_)
  first | refine ⟨(l3.set v4 (Value.mk x2.Kind x2.N x2.S r3 r4)), ?_, h⟩ | refine ⟨hi4', (l3.set v4 (Value.mk x2.Kind x2.N x2.S r3 r4)), ?_, h⟩
  refine weak_roots ?_ ?_ <;> repeat' first | exact xn | exact rn | refine xc ?_ ?_ | refine rc ?_ ?_ ?_ | rfl | simp only [go_sem, seval, List.length_set]
def fs_turns_cloneValues (N : Nat) : FnS := ⟨[], false, fn1 (decL 5 Value.dec) fun q0 => (turns_cloneValues N q0).map fun r => .sl false none 5 none (r.map Value.row), false⟩
attribute [go_sem] fs_turns_cloneValues
theorem fs_turns_cloneValues_ok (N : Nat) : FSOk Try.prog 81 (fs_turns_cloneValues N) := ok1 (fun q0 r h => by
  obtain ⟨r', hr, rfl⟩ := Option.map_eq_some_iff.1 h
  exact (w_turns_cloneValues N q0 r' hr).res (by (try simp only [go_sem]); exact RokI.h)) (fun h => decL_le Value.dec_le h)

def fso_turns_cloneValues (N : Nat) : FnS := ⟨[], false, fn1 (decL 5 Value.dec) fun q0 => (turns_cloneValues N q0).map fun r => .sl true none 5 none (r.map Value.row), false⟩
attribute [go_sem] fso_turns_cloneValues
theorem fso_turns_cloneValues_ok (N : Nat) : FSOk Try.prog 81 (fso_turns_cloneValues N) := ok1 (fun q0 r h => by
  obtain ⟨r', hr, rfl⟩ := Option.map_eq_some_iff.1 h
  exact w_turns_cloneValues N q0 r' hr) (fun h => decL_le Value.dec_le h)


noncomputable def G_turns_cloneRequest (N d f : Nat) : Option FnS := glist [(5, 82, fso_slices_Clone_int N), (8, 81, fso_turns_cloneValues N), (11, 83, fso_slices_Clone_Ref N)] d f
attribute [go_sem] G_turns_cloneRequest
theorem w_turns_cloneRequest (N : Nat) (a0 : Request) (r : Request) (h : turns_cloneRequest N a0 = some r) : Con Try.prog 51 [] false [.agg (Request.row a0)] (.agg [.val (.string r.Client), .val (.int .i64 r.Seq), .sl true none 1 none (r.Path.map (rowI .i64)), .val (.string r.Target.Type_), .val (.string r.Target.Key), .val (.string r.Method), .sl true none 5 none (r.Args.map Value.row), .sl true none 2 none (r.Chain.map Ref.row), .val (.int .i64 r.Txn)]) := by
  refine fun_ok4 (G := (G_turns_cloneRequest N)) Try.func51 rfl (by decide) (by kernel_rfl) (gc 5 (fso_slices_Clone_int_ok N) (gc 8 (fso_turns_cloneValues_ok N) (gc 11 (fso_slices_Clone_Ref_ok N) gn))) [] mix (Nat.le_of_ble_eq_true rfl) ?_
  simp only [Try.f51]
  unfold turns_cloneRequest at h
  refine Wk_seq (Wk_regionZ fun Z hZ => ?_)
  simp only [go_sem, seval]
  refine hZ _ (pp (Wk_seq ?_))
  obtain ⟨r1, hr1, h⟩ := Option.bind_eq_some_iff.1 h
  obtain ⟨r2, hr2, h⟩ := Option.bind_eq_some_iff.1 h
  obtain ⟨r3, hr3, h⟩ := Option.bind_eq_some_iff.1 h
  refine Wk_regionD fun Z hZ => ?_
  simp only [go_sem, seval, hr1, hr2, hr3]
  repeat with_reducible refine and_bar (by kernel_rfl) ?_
  refine hZ _ (by kernel_rfl) (pp (Wk_seq (Wk_regionZ fun Z hZ => ?_)))
  simp only [go_sem, seval]
  refine hZ _ (pp (Wk_ret (pp ?_)))
  cases h
  simp only [go_sem, seval]
  exact ⟨_, rfl, RokI.h⟩
def fs_turns_cloneRequest (N : Nat) : FnS := ⟨[], false, fn1 Request.decA fun q0 => (turns_cloneRequest N q0).map fun r => .agg (Request.row r), false⟩
attribute [go_sem] fs_turns_cloneRequest
theorem fs_turns_cloneRequest_ok (N : Nat) : FSOk Try.prog 51 (fs_turns_cloneRequest N) := ok1 (fun q0 r h => by
  obtain ⟨r', hr, rfl⟩ := Option.map_eq_some_iff.1 h
  exact (w_turns_cloneRequest N q0 r' hr).res (by (try simp only [go_sem]); exact RokI.h)) (Request.decA_le)

def fso_turns_cloneRequest (N : Nat) : FnS := ⟨[], false, fn1 Request.decA fun q0 => (turns_cloneRequest N q0).map fun r => .agg [.val (.string r.Client), .val (.int .i64 r.Seq), .sl true none 1 none (r.Path.map (rowI .i64)), .val (.string r.Target.Type_), .val (.string r.Target.Key), .val (.string r.Method), .sl true none 5 none (r.Args.map Value.row), .sl true none 2 none (r.Chain.map Ref.row), .val (.int .i64 r.Txn)], false⟩
attribute [go_sem] fso_turns_cloneRequest
theorem fso_turns_cloneRequest_ok (N : Nat) : FSOk Try.prog 51 (fso_turns_cloneRequest N) := ok1 (fun q0 r h => by
  obtain ⟨r', hr, rfl⟩ := Option.map_eq_some_iff.1 h
  exact w_turns_cloneRequest N q0 r' hr) (Request.decA_le)


noncomputable def G_turns_cloneReply (N d f : Nat) : Option FnS := glist [(5, 82, fso_slices_Clone_int N), (10, 82, fso_slices_Clone_int N), (14, 95, fso_slices_Clone_string N)] d f
attribute [go_sem] G_turns_cloneReply
theorem w_turns_cloneReply (N : Nat) (a0 : Reply) (r : Reply) (h : turns_cloneReply N a0 = some r) : Con Try.prog 80 [] true [.agg (Reply.row a0)] (.agg [.val (.string r.Client), .val (.int .i64 r.Seq), .sl true none 1 none (r.Path.map (rowI .i64)), .val (.int .i64 r.Err), .val (.int .i64 r.Value_.Kind), .val (.int .i64 r.Value_.N), .val (.string r.Value_.S), .sl true none 1 none (r.Value_.I.map (rowI .i64)), .sl true none 1 none (r.Value_.L.map rowS)]) := by
  refine fun_ok4 (G := (G_turns_cloneReply N)) Try.func80 rfl (by decide) (by kernel_rfl) (gc 5 (fso_slices_Clone_int_ok N) (gc 10 (fso_slices_Clone_int_ok N) (gc 14 (fso_slices_Clone_string_ok N) gn))) [] mix (Nat.le_of_ble_eq_true rfl) ?_
  simp only [Try.f80]
  unfold turns_cloneReply at h
  refine Wk_seq (Wk_regionZ fun Z hZ => ?_)
  simp only [go_sem, seval]
  refine hZ _ (pp (Wk_seq ?_))
  obtain ⟨r1, hr1, h⟩ := Option.bind_eq_some_iff.1 h
  refine Wk_regionZ fun Z hZ => ?_
  simp only [go_sem, seval, hr1]
  refine hZ _ (pp (Wk_seq ?_))
  obtain ⟨r2, hr2, h⟩ := Option.bind_eq_some_iff.1 h
  obtain ⟨r3, hr3, h⟩ := Option.bind_eq_some_iff.1 h
  refine Wk_regionD fun Z hZ => ?_
  simp only [go_sem, seval, hr2, hr3]
  repeat with_reducible refine and_bar (by kernel_rfl) ?_
  refine hZ _ (by kernel_rfl) (pp (Wk_seq (Wk_regionZ fun Z hZ => ?_)))
  simp only [go_sem, seval]
  refine hZ _ (pp (Wk_ret (pp ?_)))
  cases h
  simp only [go_sem, seval]
  exact ⟨_, rfl, RokI.h, PureI.h⟩
def fs_turns_cloneReply (N : Nat) : FnS := ⟨[], true, fn1 Reply.decA fun q0 => (turns_cloneReply N q0).map fun r => .agg (Reply.row r), false⟩
attribute [go_sem] fs_turns_cloneReply
theorem fs_turns_cloneReply_ok (N : Nat) : FSOk Try.prog 80 (fs_turns_cloneReply N) := ok1 (fun q0 r h => by
  obtain ⟨r', hr, rfl⟩ := Option.map_eq_some_iff.1 h
  exact (w_turns_cloneReply N q0 r' hr).res (by (try simp only [go_sem]); exact RokI.h)) (Reply.decA_le)

def fso_turns_cloneReply (N : Nat) : FnS := ⟨[], true, fn1 Reply.decA fun q0 => (turns_cloneReply N q0).map fun r => .agg [.val (.string r.Client), .val (.int .i64 r.Seq), .sl true none 1 none (r.Path.map (rowI .i64)), .val (.int .i64 r.Err), .val (.int .i64 r.Value_.Kind), .val (.int .i64 r.Value_.N), .val (.string r.Value_.S), .sl true none 1 none (r.Value_.I.map (rowI .i64)), .sl true none 1 none (r.Value_.L.map rowS)], false⟩
attribute [go_sem] fso_turns_cloneReply
theorem fso_turns_cloneReply_ok (N : Nat) : FSOk Try.prog 80 (fso_turns_cloneReply N) := ok1 (fun q0 r h => by
  obtain ⟨r', hr, rfl⟩ := Option.map_eq_some_iff.1 h
  exact w_turns_cloneReply N q0 r' hr) (Reply.decA_le)


noncomputable def G_turns_cloneActor (N d f : Nat) : Option FnS := glist [(7, 101, fso_slices_Clone_Turn N), (26, 51, fs_turns_cloneRequest N), (31, 51, fs_turns_cloneRequest N), (36, 80, fs_turns_cloneReply N)] d f
attribute [go_sem] G_turns_cloneActor
theorem w_turns_cloneActor (N : Nat) (a0 : Actor) (r : Actor) (h : turns_cloneActor N a0 = some r) : Con Try.prog 93 [] false [.agg (Actor.row a0)] (.agg [.val (.string r.Self.Type_), .val (.string r.Self.Key), .val (.int .i64 r.Index), .sl true none 30 none (r.Stack.map Turn.row)]) := by
  refine fun_ok4 (G := (G_turns_cloneActor N)) Try.func93 rfl (by decide) (by kernel_rfl) (gc 7 (fso_slices_Clone_Turn_ok N) (gc 26 (fs_turns_cloneRequest_ok N) (gc 31 (fs_turns_cloneRequest_ok N) (gc 36 (fs_turns_cloneReply_ok N) gn)))) [] mix (Nat.le_of_ble_eq_true rfl) ?_
  simp only [Try.f93]
  unfold turns_cloneActor at h
  refine Wk_seq (Wk_regionZ fun Z hZ => ?_)
  simp only [go_sem, seval]
  refine hZ _ (pp (Wk_seq ?_))
  obtain ⟨r1, hr1, h⟩ := Option.bind_eq_some_iff.1 h
  refine Wk_regionZ fun Z hZ => ?_
  simp only [go_sem, seval, hr1]
  refine hZ _ (pp (Wk_seq (Wk_seq (Wk_regionZ fun Z hZ => ?_))))
  simp only [go_sem, seval]
  refine hZ _ (pp (Wk_block (Wk_real fun hreal3 => ?_)))
  have hl2 := hreal3.cell 1 3 (by simp only [go_sem, seval]; rfl) rfl
  rw [List.length_map] at hl2
  refine Wk_count (fun (v4 : Nat) (b : List Turn) => ⟨tab 45 (updT (updT (updT (updT deadT 1 (.pref 1 [] 0 0)) 2 (.pref 2 [] 0 0)) 11 (.val (.int .i64 ((r1.length : Nat) : Int)))) 12 (.val (.int .i64 ((v4 : Nat) : Int)))), (upd (upd RZ 1 (.sl true none 4 (some 1) [[.val (.string a0.Self.Type_), .val (.string a0.Self.Key), .val (.int .i64 a0.Index), .sl true none 30 none (b.map Turn.row)]])) 2 (.sl true none 4 (some 1) [[.val (.string (⟨#[]⟩)), .val (.string (⟨#[]⟩)), .val (.int .i64 0), .val (.slice none 0 0)]]))⟩) r1 h ?_ ?_
  · refine weak_roots ?_ ?_ <;> repeat' first | exact xn | exact rn | refine xc ?_ ?_ | refine rc ?_ ?_ ?_ | rfl
  rintro v4 l3 _ h -
  rcases (count_cases r1.length v4).symm with ⟨hi4', hd7⟩ | ⟨hi4', hd7⟩
  · rw [hd7] at h
    simp only [turns_cloneActor_L1] at h
    refine Wk_seq (Wk_regionZ fun Z hZ => ?_)
    simp only [go_sem, seval, hi4']
    refine hZ _ (pp (Wk_seq ?_))
    try simp only [Int.ofNat_lt, hi4', if_true, if_false] at h
    refine Wk_cond_f rfl (Wk_exit (pp (Wk_seq (Wk_regionZ fun Z hZ => ?_))))
    simp only [go_sem, seval]
    refine hZ _ (pp (Wk_ret (pp ?_)))
    cases h
    simp only [go_sem, seval]
    exact ⟨_, rfl, RokI.h⟩
  rw [hd7] at h
  simp only [turns_cloneActor_L1] at h
  have hw6 := wrap_succ hi4' hl2
  refine Wk_seq (Wk_regionZ fun Z hZ => ?_)
  simp only [go_sem, seval, hi4']
  refine hZ _ (pp (Wk_seq ?_))
  try simp only [Int.ofNat_lt, hi4', if_true, if_false] at h
  refine Wk_cond_t rfl (Wk_skip (pp (Wk_seq (Wk_block (Wk_seq (Wk_regionZ fun Z hZ => ?_))))))
  simp only [go_sem, seval]
  refine hZ _ (pp (Wk_seq ?_))
  obtain ⟨x2, hb8, hx9, h⟩ := gx_some h
  try simp only [Int.toNat_natCast] at hx9
  try simp only [Int.ofNat_lt, Int.natCast_nonneg, true_and] at hb8
  refine Wk_regionZ fun Z hZ => ?_
  simp only [go_sem, seval, hb8]
  refine hZ _ (pp ?_)
  obtain ⟨r3, hr10, h⟩ := Option.bind_eq_some_iff.1 h
  obtain ⟨r4, hr11, h⟩ := Option.bind_eq_some_iff.1 h
  obtain ⟨r5, hr12, h⟩ := Option.bind_eq_some_iff.1 h
  have hx14 := set_get (y := (Turn.mk r3 x2.Calls x2.Call x2.Started x2.Done x2.Reply_)) hx9
  have hx16 := set_get (y := (Turn.mk r3 x2.Calls r4 x2.Started x2.Done x2.Reply_)) hx9
  have hx18 := set_get (y := (Turn.mk r3 x2.Calls r4 x2.Started x2.Done r5)) hx9
  refine Wk_regionD fun Z hZ => ?_
  simp only [go_sem, seval, hx9, hr10, hr11, hr12, map_modify2 (row := Turn.row) (y := (Turn.mk r3 x2.Calls x2.Call x2.Started x2.Done x2.Reply_)) (rx := [.val (.string x2.Request_.Client), .val (.int .i64 x2.Request_.Seq), .sl false none 1 none (x2.Request_.Path.map (rowI .i64)), .val (.string x2.Request_.Target.Type_), .val (.string x2.Request_.Target.Key), .val (.string x2.Request_.Method), .sl false none 5 none (x2.Request_.Args.map Value.row), .sl false none 2 none (x2.Request_.Chain.map Ref.row), .val (.int .i64 x2.Request_.Txn), .val (.int .i64 x2.Calls), .val (.string x2.Call.Client), .val (.int .i64 x2.Call.Seq), .sl false none 1 none (x2.Call.Path.map (rowI .i64)), .val (.string x2.Call.Target.Type_), .val (.string x2.Call.Target.Key), .val (.string x2.Call.Method), .sl false none 5 none (x2.Call.Args.map Value.row), .sl false none 2 none (x2.Call.Chain.map Ref.row), .val (.int .i64 x2.Call.Txn), .val (.bool x2.Started), .val (.bool x2.Done), .val (.string x2.Reply_.Client), .val (.int .i64 x2.Reply_.Seq), .sl false none 1 none (x2.Reply_.Path.map (rowI .i64)), .val (.int .i64 x2.Reply_.Err), .val (.int .i64 x2.Reply_.Value_.Kind), .val (.int .i64 x2.Reply_.Value_.N), .val (.string x2.Reply_.Value_.S), .sl false none 1 none (x2.Reply_.Value_.I.map (rowI .i64)), .sl false none 1 none (x2.Reply_.Value_.L.map rowS)]) (ry := [.val (.string r3.Client), .val (.int .i64 r3.Seq), .sl false none 1 none (r3.Path.map (rowI .i64)), .val (.string r3.Target.Type_), .val (.string r3.Target.Key), .val (.string r3.Method), .sl false none 5 none (r3.Args.map Value.row), .sl false none 2 none (r3.Chain.map Ref.row), .val (.int .i64 r3.Txn), .val (.int .i64 x2.Calls), .val (.string x2.Call.Client), .val (.int .i64 x2.Call.Seq), .sl false none 1 none (x2.Call.Path.map (rowI .i64)), .val (.string x2.Call.Target.Type_), .val (.string x2.Call.Target.Key), .val (.string x2.Call.Method), .sl false none 5 none (x2.Call.Args.map Value.row), .sl false none 2 none (x2.Call.Chain.map Ref.row), .val (.int .i64 x2.Call.Txn), .val (.bool x2.Started), .val (.bool x2.Done), .val (.string x2.Reply_.Client), .val (.int .i64 x2.Reply_.Seq), .sl false none 1 none (x2.Reply_.Path.map (rowI .i64)), .val (.int .i64 x2.Reply_.Err), .val (.int .i64 x2.Reply_.Value_.Kind), .val (.int .i64 x2.Reply_.Value_.N), .val (.string x2.Reply_.Value_.S), .sl false none 1 none (x2.Reply_.Value_.I.map (rowI .i64)), .sl false none 1 none (x2.Reply_.Value_.L.map rowS)]) hx9 rfl rfl, hx14, map_modify3 (row := Turn.row) (y0 := (Turn.mk r3 x2.Calls x2.Call x2.Started x2.Done x2.Reply_)) (y := (Turn.mk r3 x2.Calls r4 x2.Started x2.Done x2.Reply_)) (rx := [.val (.string r3.Client), .val (.int .i64 r3.Seq), .sl false none 1 none (r3.Path.map (rowI .i64)), .val (.string r3.Target.Type_), .val (.string r3.Target.Key), .val (.string r3.Method), .sl false none 5 none (r3.Args.map Value.row), .sl false none 2 none (r3.Chain.map Ref.row), .val (.int .i64 r3.Txn), .val (.int .i64 x2.Calls), .val (.string x2.Call.Client), .val (.int .i64 x2.Call.Seq), .sl false none 1 none (x2.Call.Path.map (rowI .i64)), .val (.string x2.Call.Target.Type_), .val (.string x2.Call.Target.Key), .val (.string x2.Call.Method), .sl false none 5 none (x2.Call.Args.map Value.row), .sl false none 2 none (x2.Call.Chain.map Ref.row), .val (.int .i64 x2.Call.Txn), .val (.bool x2.Started), .val (.bool x2.Done), .val (.string x2.Reply_.Client), .val (.int .i64 x2.Reply_.Seq), .sl false none 1 none (x2.Reply_.Path.map (rowI .i64)), .val (.int .i64 x2.Reply_.Err), .val (.int .i64 x2.Reply_.Value_.Kind), .val (.int .i64 x2.Reply_.Value_.N), .val (.string x2.Reply_.Value_.S), .sl false none 1 none (x2.Reply_.Value_.I.map (rowI .i64)), .sl false none 1 none (x2.Reply_.Value_.L.map rowS)]) (ry := [.val (.string r3.Client), .val (.int .i64 r3.Seq), .sl false none 1 none (r3.Path.map (rowI .i64)), .val (.string r3.Target.Type_), .val (.string r3.Target.Key), .val (.string r3.Method), .sl false none 5 none (r3.Args.map Value.row), .sl false none 2 none (r3.Chain.map Ref.row), .val (.int .i64 r3.Txn), .val (.int .i64 x2.Calls), .val (.string r4.Client), .val (.int .i64 r4.Seq), .sl false none 1 none (r4.Path.map (rowI .i64)), .val (.string r4.Target.Type_), .val (.string r4.Target.Key), .val (.string r4.Method), .sl false none 5 none (r4.Args.map Value.row), .sl false none 2 none (r4.Chain.map Ref.row), .val (.int .i64 r4.Txn), .val (.bool x2.Started), .val (.bool x2.Done), .val (.string x2.Reply_.Client), .val (.int .i64 x2.Reply_.Seq), .sl false none 1 none (x2.Reply_.Path.map (rowI .i64)), .val (.int .i64 x2.Reply_.Err), .val (.int .i64 x2.Reply_.Value_.Kind), .val (.int .i64 x2.Reply_.Value_.N), .val (.string x2.Reply_.Value_.S), .sl false none 1 none (x2.Reply_.Value_.I.map (rowI .i64)), .sl false none 1 none (x2.Reply_.Value_.L.map rowS)]) hx9 rfl rfl, hx16, map_modify3 (row := Turn.row) (y0 := (Turn.mk r3 x2.Calls r4 x2.Started x2.Done x2.Reply_)) (y := (Turn.mk r3 x2.Calls r4 x2.Started x2.Done r5)) (rx := [.val (.string r3.Client), .val (.int .i64 r3.Seq), .sl false none 1 none (r3.Path.map (rowI .i64)), .val (.string r3.Target.Type_), .val (.string r3.Target.Key), .val (.string r3.Method), .sl false none 5 none (r3.Args.map Value.row), .sl false none 2 none (r3.Chain.map Ref.row), .val (.int .i64 r3.Txn), .val (.int .i64 x2.Calls), .val (.string r4.Client), .val (.int .i64 r4.Seq), .sl false none 1 none (r4.Path.map (rowI .i64)), .val (.string r4.Target.Type_), .val (.string r4.Target.Key), .val (.string r4.Method), .sl false none 5 none (r4.Args.map Value.row), .sl false none 2 none (r4.Chain.map Ref.row), .val (.int .i64 r4.Txn), .val (.bool x2.Started), .val (.bool x2.Done), .val (.string x2.Reply_.Client), .val (.int .i64 x2.Reply_.Seq), .sl false none 1 none (x2.Reply_.Path.map (rowI .i64)), .val (.int .i64 x2.Reply_.Err), .val (.int .i64 x2.Reply_.Value_.Kind), .val (.int .i64 x2.Reply_.Value_.N), .val (.string x2.Reply_.Value_.S), .sl false none 1 none (x2.Reply_.Value_.I.map (rowI .i64)), .sl false none 1 none (x2.Reply_.Value_.L.map rowS)]) (ry := [.val (.string r3.Client), .val (.int .i64 r3.Seq), .sl false none 1 none (r3.Path.map (rowI .i64)), .val (.string r3.Target.Type_), .val (.string r3.Target.Key), .val (.string r3.Method), .sl false none 5 none (r3.Args.map Value.row), .sl false none 2 none (r3.Chain.map Ref.row), .val (.int .i64 r3.Txn), .val (.int .i64 x2.Calls), .val (.string r4.Client), .val (.int .i64 r4.Seq), .sl false none 1 none (r4.Path.map (rowI .i64)), .val (.string r4.Target.Type_), .val (.string r4.Target.Key), .val (.string r4.Method), .sl false none 5 none (r4.Args.map Value.row), .sl false none 2 none (r4.Chain.map Ref.row), .val (.int .i64 r4.Txn), .val (.bool x2.Started), .val (.bool x2.Done), .val (.string r5.Client), .val (.int .i64 r5.Seq), .sl false none 1 none (r5.Path.map (rowI .i64)), .val (.int .i64 r5.Err), .val (.int .i64 r5.Value_.Kind), .val (.int .i64 r5.Value_.N), .val (.string r5.Value_.S), .sl false none 1 none (r5.Value_.I.map (rowI .i64)), .sl false none 1 none (r5.Value_.L.map rowS)]) hx9 rfl rfl]
  repeat with_reducible refine and_bar (by kernel_rfl) ?_
  refine hZ _ (by kernel_rfl) (pp (Wk_regionZ fun Z hZ => ?_))
  simp only [go_sem, seval, hw6]
  refine hZ _ (pp ?_)
  first | refine ⟨(l3.set v4 (Turn.mk r3 x2.Calls r4 x2.Started x2.Done r5)), ?_, h⟩ | refine ⟨hi4', (l3.set v4 (Turn.mk r3 x2.Calls r4 x2.Started x2.Done r5)), ?_, h⟩
  refine weak_roots ?_ ?_ <;> repeat' first | exact xn | exact rn | refine xc ?_ ?_ | refine rc ?_ ?_ ?_ | rfl
def fs_turns_cloneActor (N : Nat) : FnS := ⟨[], false, fn1 Actor.decA fun q0 => (turns_cloneActor N q0).map fun r => .agg (Actor.row r), false⟩
attribute [go_sem] fs_turns_cloneActor
theorem fs_turns_cloneActor_ok (N : Nat) : FSOk Try.prog 93 (fs_turns_cloneActor N) := ok1 (fun q0 r h => by
  obtain ⟨r', hr, rfl⟩ := Option.map_eq_some_iff.1 h
  exact (w_turns_cloneActor N q0 r' hr).res (by (try simp only [go_sem]); exact RokI.h)) (Actor.decA_le)

def fso_turns_cloneActor (N : Nat) : FnS := ⟨[], false, fn1 Actor.decA fun q0 => (turns_cloneActor N q0).map fun r => .agg [.val (.string r.Self.Type_), .val (.string r.Self.Key), .val (.int .i64 r.Index), .sl true none 30 none (r.Stack.map Turn.row)], false⟩
attribute [go_sem] fso_turns_cloneActor
theorem fso_turns_cloneActor_ok (N : Nat) : FSOk Try.prog 93 (fso_turns_cloneActor N) := ok1 (fun q0 r h => by
  obtain ⟨r', hr, rfl⟩ := Option.map_eq_some_iff.1 h
  exact w_turns_cloneActor N q0 r' hr) (Actor.decA_le)


noncomputable def G_turns_changed (N d f : Nat) : Option FnS := glist [(25, 93, fso_turns_cloneActor N)] d f
attribute [go_sem] G_turns_changed
theorem w_turns_changed (N : Nat) (a0 : Actor) (a1 : Int) (a2 : (List Turn)) (r : Actor × Int) (h : turns_changed N a0 a1 a2 = some r) : Con Try.prog 73 [] false [.agg (Actor.row a0), .val (.int .i64 a1), .sl false none 30 none (a2.map Turn.row)] (.tup [.agg [.val (.string r.1.Self.Type_), .val (.string r.1.Self.Key), .val (.int .i64 r.1.Index), .sl true none 30 none (r.1.Stack.map Turn.row)], .val (.int .i64 r.2)]) := by
  refine fun_ok4 (G := (G_turns_changed N)) Try.func73 rfl (by decide) (by kernel_rfl) (gc 25 (fso_turns_cloneActor_ok N) gn) [(22, false)] mix (Nat.le_of_ble_eq_true rfl) ?_
  simp only [Try.f73]
  unfold turns_changed at h
  refine Wk_seq (Wk_regionZ fun Z hZ => ?_)
  simp only [go_sem, seval]
  refine hZ _ (pp (Wk_seq (Wk_seq (Wk_regionZ fun Z hZ => ?_))))
  simp only [go_sem, seval]
  refine hZ _ (pp (Wk_cond_dec rfl (fun hc1 => ?_) (fun hc1 => ?_)))
  · have hc1d := decide_eq_true hc1
    rw [if_pos hc1] at h
    refine Wk_seq (Wk_regionZ fun Z hZ => ?_)
    simp only [go_sem, seval, hc1d]
    refine hZ _ (pp (Wk_ret (pp ?_)))
    cases h
    simp only [go_sem, seval]
    exact ⟨_, rfl, RokI.h⟩
  have hc1d := decide_eq_false hc1
  rw [if_neg hc1] at h
  refine Wk_skip (pp (Wk_seq (Wk_regionZ fun Z hZ => ?_)))
  simp only [go_sem, seval, hc1d]
  refine hZ _ (pp (Wk_seq ?_))
  obtain ⟨hs2, ht3, h⟩ := slt_some h
  try simp only [Int.toNat_natCast] at hs2 ht3 h
  obtain ⟨ha4, h⟩ := apx_some h
  simp only [Nat.reduceAdd] at ha4
  refine Wk_regionZ fun Z hZ => ?_
  simp only [go_sem, seval, hs2, ht3, Nat.sub_zero, Nat.zero_le, Nat.le_refl, ha4, Nat.lt_succ_self]
  refine hZ _ (pp (Wk_seq ?_))
  obtain ⟨r1, hr5, h⟩ := Option.bind_eq_some_iff.1 h
  refine Wk_regionZ fun Z hZ => ?_
  simp only [go_sem, seval, Nat.le_refl, Nat.lt_succ_self, hr5]
  refine hZ _ (pp (Wk_ret (pp ?_)))
  cases h
  simp only [go_sem, seval, Nat.le_refl]
  exact ⟨_, rfl, RokI.h⟩
def fs_turns_changed (N : Nat) : FnS := ⟨[], false, fn3 Actor.decA (decI .i64) (decL 30 Turn.dec) fun q0 q1 q2 => (turns_changed N q0 q1 q2).map fun r => .tup [.agg (Actor.row r.1), .val (.int .i64 r.2)], false⟩
attribute [go_sem] fs_turns_changed
theorem fs_turns_changed_ok (N : Nat) : FSOk Try.prog 73 (fs_turns_changed N) := ok3 (fun q0 q1 q2 r h => by
  obtain ⟨r', hr, rfl⟩ := Option.map_eq_some_iff.1 h
  exact (w_turns_changed N q0 q1 q2 r' hr).res (by (try simp only [go_sem]); exact RokI.h)) (Actor.decA_le) (decI_le) (fun h => decL_le Turn.dec_le h)

def fso_turns_changed (N : Nat) : FnS := ⟨[], false, fn3 Actor.decA (decI .i64) (decL 30 Turn.dec) fun q0 q1 q2 => (turns_changed N q0 q1 q2).map fun r => .tup [.agg [.val (.string r.1.Self.Type_), .val (.string r.1.Self.Key), .val (.int .i64 r.1.Index), .sl true none 30 none (r.1.Stack.map Turn.row)], .val (.int .i64 r.2)], false⟩
attribute [go_sem] fso_turns_changed
theorem fso_turns_changed_ok (N : Nat) : FSOk Try.prog 73 (fso_turns_changed N) := ok3 (fun q0 q1 q2 r h => by
  obtain ⟨r', hr, rfl⟩ := Option.map_eq_some_iff.1 h
  exact w_turns_changed N q0 q1 q2 r' hr) (Actor.decA_le) (decI_le) (fun h => decL_le Turn.dec_le h)


noncomputable def G_turns_Begin (N d f : Nat) : Option FnS := glist [(9, 33, fs_turns_Admits N), (21, 73, fs_turns_changed N)] d f
attribute [go_sem] G_turns_Begin
theorem w_turns_Begin (N : Nat) (a0 : Actor) (a1 : Request) (r : Actor × Int) (h : turns_Begin N a0 a1 = some r) : Con Try.prog 29 [] false [.agg (Actor.row a0), .agg (Request.row a1)] (.tup [.agg (Actor.row r.1), .val (.int .i64 r.2)]) := by
  refine fun_ok4 (G := (G_turns_Begin N)) Try.func29 rfl (by decide) (by kernel_rfl) (gc 9 (fs_turns_Admits_ok N) (gc 21 (fs_turns_changed_ok N) gn)) [] mix (Nat.le_of_ble_eq_true rfl) ?_
  simp only [Try.f29]
  unfold turns_Begin at h
  refine Wk_seq (Wk_regionZ fun Z hZ => ?_)
  simp only [go_sem, seval]
  refine hZ _ (pp (Wk_seq (Wk_seq ?_)))
  obtain ⟨r1, hr1, h⟩ := Option.bind_eq_some_iff.1 h
  refine Wk_regionZ fun Z hZ => ?_
  simp only [go_sem, seval, hr1]
  refine hZ _ (pp (Wk_seq (Wk_regionZ fun Z hZ => ?_)))
  simp only [go_sem, seval]
  refine hZ _ (pp (Wk_cond_ndec rfl (fun hc2 => ?_) (fun hc2 => ?_)))
  · have hc2d := decide_eq_false hc2
    rw [if_neg hc2] at h
    refine Wk_seq (Wk_regionZ fun Z hZ => ?_)
    simp only [go_sem, seval, hc2d]
    refine hZ _ (pp (Wk_ret (pp ?_)))
    cases h
    simp only [go_sem, seval]
    exact ⟨_, rfl, RokI.h⟩
  have hc2d := decide_eq_true hc2
  rw [if_pos hc2] at h
  refine Wk_skip (pp (Wk_seq ?_))
  obtain ⟨r2, hr3, h⟩ := Option.bind_eq_some_iff.1 h
  refine Wk_regionZ fun Z hZ => ?_
  simp only [go_sem, seval, hc2d, hr3]
  refine hZ _ (pp (Wk_ret (pp ?_)))
  cases h
  simp only [go_sem, seval]
  exact ⟨_, rfl, RokI.h⟩
def fs_turns_Begin (N : Nat) : FnS := ⟨[], false, fn2 Actor.decA Request.decA fun q0 q1 => (turns_Begin N q0 q1).map fun r => .tup [.agg (Actor.row r.1), .val (.int .i64 r.2)], false⟩
attribute [go_sem] fs_turns_Begin
theorem fs_turns_Begin_ok (N : Nat) : FSOk Try.prog 29 (fs_turns_Begin N) := ok2 (fun q0 q1 r h => by
  obtain ⟨r', hr, rfl⟩ := Option.map_eq_some_iff.1 h
  exact w_turns_Begin N q0 q1 r' hr) (Actor.decA_le) (Request.decA_le)


noncomputable def G_turns_Nested (N d f : Nat) : Option FnS := glist [(15, 17, fs_turns_ValidRequest N), (20, 55, fs_turns_number N), (25, 54, fs_directory_ValidRef N), (30, 54, fs_directory_ValidRef N), (35, 60, fs_turns_name N), (40, 61, fs_turns_validArgs N), (57, 51, fso_turns_cloneRequest N), (74, 81, fso_turns_cloneValues N)] d f
attribute [go_sem] G_turns_Nested
theorem w_turns_Nested (N : Nat) (a0 : Turn) (a1 : Ref) (a2 : Ref) (a3 : ByteArray) (a4 : (List Value)) (r : Request × Int) (h : turns_Nested N a0 a1 a2 a3 a4 = some r) : Con Try.prog 43 [] false [.agg (Turn.row a0), .agg [.val (.string a1.Type_), .val (.string a1.Key)], .agg [.val (.string a2.Type_), .val (.string a2.Key)], .val (.string a3), .sl false none 5 none (a4.map Value.row)] (.tup [.agg [.val (.string r.1.Client), .val (.int .i64 r.1.Seq), .sl true none 1 none (r.1.Path.map (rowI .i64)), .val (.string r.1.Target.Type_), .val (.string r.1.Target.Key), .val (.string r.1.Method), .sl true none 5 none (r.1.Args.map Value.row), .sl true none 2 none (r.1.Chain.map Ref.row), .val (.int .i64 r.1.Txn)], .val (.int .i64 r.2)]) := by
  refine fun_ok4 (G := (G_turns_Nested N)) Try.func43 rfl (by decide) (by kernel_rfl) (gc 15 (fs_turns_ValidRequest_ok N) (gc 20 (fs_turns_number_ok N) (gc 25 (fs_directory_ValidRef_ok N) (gc 30 (fs_directory_ValidRef_ok N) (gc 35 (fs_turns_name_ok N) (gc 40 (fs_turns_validArgs_ok N) (gc 57 (fso_turns_cloneRequest_ok N) (gc 74 (fso_turns_cloneValues_ok N) gn)))))))) [] mix (Nat.le_of_ble_eq_true rfl) ?_
  simp only [Try.f43]
  unfold turns_Nested at h
  refine Wk_seq (Wk_regionZ fun Z hZ => ?_)
  simp only [go_sem, seval]
  refine hZ _ (pp (Wk_seq ?_))
  apply Wk_join1 (fun (c15 : Bool) => ⟨tab 79 (updT (updT (updT (updT (updT (updT (updT deadT 3 (.val (.string a3))) 4 (.sl false none 5 none (a4.map Value.row))) 5 (.pref 5 [] 0 0)) 6 (.pref 6 [] 0 0)) 7 (.pref 7 [] 0 0)) 10 (.pref 10 [] 0 0)) 42 (.val (.bool c15))), (upd (upd (upd (upd RZ 5 (.sl true none 30 (some 1) [Turn.row a0])) 6 (.sl true none 2 (some 1) [[.val (.string a1.Type_), .val (.string a1.Key)]])) 7 (.sl true none 2 (some 1) [[.val (.string a2.Type_), .val (.string a2.Key)]])) 10 (.sl true none 9 (some 1) [[.val (.string (⟨#[]⟩)), .val (.int .i64 0), .val (.slice none 0 0), .val (.string (⟨#[]⟩)), .val (.string (⟨#[]⟩)), .val (.string (⟨#[]⟩)), .val (.slice none 0 0), .val (.slice none 0 0), .val (.int .i64 0)]]))⟩)
  · intro hJ1
    obtain ⟨r16, hr2, h⟩ := Option.bind_eq_some_iff.1 h
    refine Wk_regionZ fun Z hZ => ?_
    simp only [go_sem, seval, hr2]
    refine RX_guard_nbool rfl (fun hc3 => ?_) (fun hc3 => ?_)
    · rw [if_neg (ne_true_of_eq_false hc3)] at h
      simp only [go_sem, seval, hc3]
      refine hZ _ (pp (hJ1 _ true ?_ h))
      refine weak_roots ?_ ?_ <;> repeat' first | exact xn | exact rn | refine xc ?_ ?_ | refine rc ?_ ?_ ?_ | rfl
    rw [if_pos hc3] at h
    obtain ⟨r17, hr4, h⟩ := Option.bind_eq_some_iff.1 h
    simp only [go_sem, seval, hc3, hr4]
    refine RX_guard_nbool rfl (fun hc5 => ?_) (fun hc5 => ?_)
    · rw [if_neg (ne_true_of_eq_false hc5)] at h
      simp only [go_sem, seval, hc5]
      refine hZ _ (pp (hJ1 _ true ?_ h))
      refine weak_roots ?_ ?_ <;> repeat' first | exact xn | exact rn | refine xc ?_ ?_ | refine rc ?_ ?_ ?_ | rfl
    rw [if_pos hc5] at h
    obtain ⟨r18, hr6, h⟩ := Option.bind_eq_some_iff.1 h
    simp only [go_sem, seval, hc5, hr6]
    refine RX_guard_nbool rfl (fun hc7 => ?_) (fun hc7 => ?_)
    · rw [if_neg (ne_true_of_eq_false hc7)] at h
      simp only [go_sem, seval, hc7]
      refine hZ _ (pp (hJ1 _ true ?_ h))
      refine weak_roots ?_ ?_ <;> repeat' first | exact xn | exact rn | refine xc ?_ ?_ | refine rc ?_ ?_ ?_ | rfl
    rw [if_pos hc7] at h
    obtain ⟨r19, hr8, h⟩ := Option.bind_eq_some_iff.1 h
    simp only [go_sem, seval, hc7, hr8]
    refine RX_guard_nbool rfl (fun hc9 => ?_) (fun hc9 => ?_)
    · rw [if_neg (ne_true_of_eq_false hc9)] at h
      simp only [go_sem, seval, hc9]
      refine hZ _ (pp (hJ1 _ true ?_ h))
      refine weak_roots ?_ ?_ <;> repeat' first | exact xn | exact rn | refine xc ?_ ?_ | refine rc ?_ ?_ ?_ | rfl
    rw [if_pos hc9] at h
    obtain ⟨r20, hr10, h⟩ := Option.bind_eq_some_iff.1 h
    simp only [go_sem, seval, hc9, hr10]
    refine RX_guard_nbool rfl (fun hc11 => ?_) (fun hc11 => ?_)
    · rw [if_neg (ne_true_of_eq_false hc11)] at h
      simp only [go_sem, seval, hc11]
      refine hZ _ (pp (hJ1 _ true ?_ h))
      refine weak_roots ?_ ?_ <;> repeat' first | exact xn | exact rn | refine xc ?_ ?_ | refine rc ?_ ?_ ?_ | rfl
    rw [if_pos hc11] at h
    obtain ⟨r21, hr12, h⟩ := Option.bind_eq_some_iff.1 h
    simp only [go_sem, seval, hc11, hr12]
    refine hZ _ (pp (hJ1 _ (!r21) ?_ h))
    refine weak_roots ?_ ?_ <;> repeat' first | exact xn | exact rn | refine xc ?_ ?_ | refine rc ?_ ?_ ?_ | rfl
  intro c15 h
  unfold turns_Nested_J1 at h
  refine Wk_cond_bool rfl (fun hc13 => ?_) (fun hc13 => ?_)
  · rw [if_pos hc13] at h
    refine Wk_seq (Wk_regionZ fun Z hZ => ?_)
    simp only [go_sem, seval, hc13]
    refine hZ _ (pp (Wk_ret (pp ?_)))
    cases h
    simp only [go_sem, seval]
    exact ⟨_, rfl, RokI.h⟩
  rw [if_neg (ne_true_of_eq_false hc13)] at h
  refine Wk_skip (pp ?_)
  unfold turns_Nested_J4 at h
  refine Wk_seq ?_
  apply Wk_join1 (fun (c24 : Bool) => ⟨tab 79 (updT (updT (updT (updT (updT (updT (updT deadT 3 (.val (.string a3))) 4 (.sl false none 5 none (a4.map Value.row))) 5 (.pref 5 [] 0 0)) 6 (.pref 6 [] 0 0)) 7 (.pref 7 [] 0 0)) 10 (.pref 10 [] 0 0)) 53 (.val (.bool c24))), (upd (upd (upd (upd RZ 5 (.sl true none 30 (some 1) [Turn.row a0])) 6 (.sl true none 2 (some 1) [[.val (.string a1.Type_), .val (.string a1.Key)]])) 7 (.sl true none 2 (some 1) [[.val (.string a2.Type_), .val (.string a2.Key)]])) 10 (.sl true none 9 (some 1) [[.val (.string (⟨#[]⟩)), .val (.int .i64 0), .val (.slice none 0 0), .val (.string (⟨#[]⟩)), .val (.string (⟨#[]⟩)), .val (.string (⟨#[]⟩)), .val (.slice none 0 0), .val (.slice none 0 0), .val (.int .i64 0)]]))⟩)
  · intro hJ14
    refine Wk_regionZ fun Z hZ => ?_
    simp only [go_sem, seval, hc13]
    refine RX_guard_dec rfl (fun hc15 => ?_) (fun hc15 => ?_)
    · have hc15d := decide_eq_true hc15
      rw [if_pos hc15] at h
      simp only [go_sem, seval, hc15d]
      refine hZ _ (pp (hJ14 _ true ?_ h))
      refine weak_roots ?_ ?_ <;> repeat' first | exact xn | exact rn | refine xc ?_ ?_ | refine rc ?_ ?_ ?_ | rfl
    have hc15d := decide_eq_false hc15
    rw [if_neg hc15] at h
    simp only [go_sem, seval, hc15d]
    refine hZ _ (pp (hJ14 _ (decide (a0.Calls = 1099511627776)) ?_ h))
    refine weak_roots ?_ ?_ <;> repeat' first | exact xn | exact rn | refine xc ?_ ?_ | refine rc ?_ ?_ ?_ | rfl
  intro c24 h
  unfold turns_Nested_J2 at h
  refine Wk_cond_bool rfl (fun hc16 => ?_) (fun hc16 => ?_)
  · rw [if_pos hc16] at h
    refine Wk_seq (Wk_regionZ fun Z hZ => ?_)
    simp only [go_sem, seval, hc16]
    refine hZ _ (pp (Wk_ret (pp ?_)))
    cases h
    simp only [go_sem, seval]
    exact ⟨_, rfl, RokI.h⟩
  rw [if_neg (ne_true_of_eq_false hc16)] at h
  refine Wk_skip (pp ?_)
  unfold turns_Nested_J3 at h
  refine Wk_seq ?_
  obtain ⟨r25, hr17, h⟩ := Option.bind_eq_some_iff.1 h
  refine Wk_regionZ fun Z hZ => ?_
  simp only [go_sem, seval, hc16, hr17]
  refine hZ _ (pp (Wk_seq ?_))
  obtain ⟨ha18, h⟩ := apx_some h
  simp only [List.length_cons, List.length_nil, Nat.zero_add, Nat.reduceAdd] at ha18
  obtain ⟨ha19, h⟩ := apx_some h
  simp only [List.length_cons, List.length_nil, Nat.zero_add, Nat.reduceAdd] at ha19
  refine Wk_regionH fun Y hY => ?_
  refine RX2_s rfl rfl fun Z hZ => ?_
  simp only [go_sem, seval]
  repeat with_reducible refine and_bar (by kernel_rfl) ?_
  refine hZ _ ?_
  refine RX2_s rfl rfl fun Z hZ => ?_
  simp only [go_sem, seval]
  refine hZ _ ?_
  refine RX2_s rfl rfl fun Z hZ => ?_
  simp only [go_sem, seval]
  refine hZ _ ?_
  refine RX2_s rfl rfl fun Z hZ => ?_
  simp only [go_sem, seval]
  refine hZ _ ?_
  refine RX2_s rfl rfl fun Z hZ => ?_
  simp only [go_sem, seval]
  refine hZ _ ?_
  refine RX2_a fun Z hZ => ?_
  simp only [go_sem, seval, ha18]
  refine hZ _ ?_
  refine RX2_s rfl rfl fun Z hZ => ?_
  simp only [go_sem, seval]
  refine hZ _ ?_
  refine RX2_s rfl rfl fun Z hZ => ?_
  simp only [go_sem, seval]
  refine hZ _ ?_
  refine RX2_s rfl rfl fun Z hZ => ?_
  simp only [go_sem, seval]
  refine hZ _ ?_
  refine RX2_s rfl rfl fun Z hZ => ?_
  simp only [go_sem, seval]
  refine hZ _ ?_
  refine RX2_a fun Z hZ => ?_
  simp only [go_sem, seval, ha19]
  refine hZ _ ?_
  refine RX2_s rfl rfl fun Z hZ => ?_
  simp only [go_sem, seval]
  refine hZ _ ?_
  refine RX2_w fun Z hZ => ?_
  simp only [go_sem, seval]
  refine hZ _ ?_
  refine RX2_s rfl rfl fun Z hZ => ?_
  simp only [go_sem, seval]
  refine hZ _ ?_
  refine RX2_w fun Z hZ => ?_
  simp only [go_sem, seval]
  refine hZ _ ?_
  refine RX2_end (by kernel_rfl) (hY _ (pp (Wk_seq ?_)))
  obtain ⟨r26, hr20, h⟩ := Option.bind_eq_some_iff.1 h
  refine Wk_regionD fun Z hZ => ?_
  simp only [go_sem, seval, hr20]
  repeat with_reducible refine and_bar (by kernel_rfl) ?_
  refine hZ _ (by kernel_rfl) (pp (Wk_seq (Wk_regionZ fun Z hZ => ?_)))
  simp only [go_sem, seval]
  refine hZ _ (pp (Wk_ret (pp ?_)))
  cases h
  simp only [go_sem, seval]
  exact ⟨_, rfl, RokI.h⟩
def fs_turns_Nested (N : Nat) : FnS := ⟨[], false, fn5 Turn.decA Ref.decA Ref.decA decS (decL 5 Value.dec) fun q0 q1 q2 q3 q4 => (turns_Nested N q0 q1 q2 q3 q4).map fun r => .tup [.agg (Request.row r.1), .val (.int .i64 r.2)], false⟩
attribute [go_sem] fs_turns_Nested
theorem fs_turns_Nested_ok (N : Nat) : FSOk Try.prog 43 (fs_turns_Nested N) := ok5 (fun q0 q1 q2 q3 q4 r h => by
  obtain ⟨r', hr, rfl⟩ := Option.map_eq_some_iff.1 h
  exact (w_turns_Nested N q0 q1 q2 q3 q4 r' hr).res (by (try simp only [go_sem]); exact RokI.h)) (Turn.decA_le) (Ref.decA_le) (Ref.decA_le) (decS_le) (fun h => decL_le Value.dec_le h)

def fso_turns_Nested (N : Nat) : FnS := ⟨[], false, fn5 Turn.decA Ref.decA Ref.decA decS (decL 5 Value.dec) fun q0 q1 q2 q3 q4 => (turns_Nested N q0 q1 q2 q3 q4).map fun r => .tup [.agg [.val (.string r.1.Client), .val (.int .i64 r.1.Seq), .sl true none 1 none (r.1.Path.map (rowI .i64)), .val (.string r.1.Target.Type_), .val (.string r.1.Target.Key), .val (.string r.1.Method), .sl true none 5 none (r.1.Args.map Value.row), .sl true none 2 none (r.1.Chain.map Ref.row), .val (.int .i64 r.1.Txn)], .val (.int .i64 r.2)], false⟩
attribute [go_sem] fso_turns_Nested
theorem fso_turns_Nested_ok (N : Nat) : FSOk Try.prog 43 (fso_turns_Nested N) := ok5 (fun q0 q1 q2 q3 q4 r h => by
  obtain ⟨r', hr, rfl⟩ := Option.map_eq_some_iff.1 h
  exact w_turns_Nested N q0 q1 q2 q3 q4 r' hr) (Turn.decA_le) (Ref.decA_le) (Ref.decA_le) (decS_le) (fun h => decL_le Value.dec_le h)


noncomputable def G_turns_replaced (N d f : Nat) : Option FnS := glist [(13, 73, fs_turns_changed N)] d f
attribute [go_sem] G_turns_replaced
theorem w_turns_replaced (N : Nat) (a0 : Actor) (a1 : Turn) (r : Actor × Int) (h : turns_replaced N a0 a1 = some r) : Con Try.prog 78 [] false [.agg (Actor.row a0), .agg (Turn.row a1)] (.tup [.agg (Actor.row r.1), .val (.int .i64 r.2)]) := by
  refine fun_ok4 (G := (G_turns_replaced N)) Try.func78 rfl (by decide) (by kernel_rfl) (gc 13 (fs_turns_changed_ok N) gn) [] mix (Nat.le_of_ble_eq_true rfl) ?_
  simp only [Try.f78]
  unfold turns_replaced at h
  refine Wk_seq (Wk_regionZ fun Z hZ => ?_)
  simp only [go_sem, seval]
  refine hZ _ (pp (Wk_seq ?_))
  obtain ⟨r1, hr1, h⟩ := Option.bind_eq_some_iff.1 h
  refine Wk_regionZ fun Z hZ => ?_
  simp only [go_sem, seval, hr1]
  refine hZ _ (pp (Wk_ret (pp ?_)))
  cases h
  simp only [go_sem, seval]
  exact ⟨_, rfl, RokI.h⟩
def fs_turns_replaced (N : Nat) : FnS := ⟨[], false, fn2 Actor.decA Turn.decA fun q0 q1 => (turns_replaced N q0 q1).map fun r => .tup [.agg (Actor.row r.1), .val (.int .i64 r.2)], false⟩
attribute [go_sem] fs_turns_replaced
theorem fs_turns_replaced_ok (N : Nat) : FSOk Try.prog 78 (fs_turns_replaced N) := ok2 (fun q0 q1 r h => by
  obtain ⟨r', hr, rfl⟩ := Option.map_eq_some_iff.1 h
  exact w_turns_replaced N q0 q1 r' hr) (Actor.decA_le) (Turn.decA_le)


noncomputable def G_turns_Suspend (N d f : Nat) : Option FnS := glist [(15, 15, fs_turns_Valid N), (19, 54, fs_directory_ValidRef N), (24, 60, fs_turns_name N), (29, 61, fs_turns_validArgs N), (35, 74, fs_turns_top N), (42, 75, fs_turns_running N), (53, 43, fs_turns_Nested N), (68, 78, fs_turns_replaced N)] d f
attribute [go_sem] G_turns_Suspend
theorem w_turns_Suspend (N : Nat) (a0 : Actor) (a1 : Ref) (a2 : ByteArray) (a3 : (List Value)) (r : Actor × Int) (h : turns_Suspend N a0 a1 a2 a3 = some r) : Con Try.prog 35 [] false [.agg (Actor.row a0), .agg [.val (.string a1.Type_), .val (.string a1.Key)], .val (.string a2), .sl false none 5 none (a3.map Value.row)] (.tup [.agg (Actor.row r.1), .val (.int .i64 r.2)]) := by
  refine fun_ok4 (G := (G_turns_Suspend N)) Try.func35 rfl (by decide) (by kernel_rfl) (gc 15 (fs_turns_Valid_ok N) (gc 19 (fs_directory_ValidRef_ok N) (gc 24 (fs_turns_name_ok N) (gc 29 (fs_turns_validArgs_ok N) (gc 35 (fs_turns_top_ok N) (gc 42 (fs_turns_running_ok N) (gc 53 (fs_turns_Nested_ok N) (gc 68 (fs_turns_replaced_ok N) gn)))))))) [] mix (Nat.le_of_ble_eq_true rfl) ?_
  simp only [Try.f35]
  unfold turns_Suspend at h
  refine Wk_seq (Wk_regionZ fun Z hZ => ?_)
  simp only [go_sem, seval]
  refine hZ _ (pp (Wk_seq ?_))
  apply Wk_join1 (fun (c11 : Bool) => ⟨tab 71 (updT (updT (updT (updT (updT (updT deadT 2 (.val (.string a2))) 3 (.sl false none 5 none (a3.map Value.row))) 4 (.pref 4 [] 0 0)) 5 (.pref 5 [] 0 0)) 8 (.pref 8 [] 0 0)) 31 (.val (.bool c11))), (upd (upd (upd RZ 4 (.sl true none 4 (some 1) [Actor.row a0])) 5 (.sl true none 2 (some 1) [[.val (.string a1.Type_), .val (.string a1.Key)]])) 8 (.sl true none 4 (some 1) [[.val (.string (⟨#[]⟩)), .val (.string (⟨#[]⟩)), .val (.int .i64 0), .val (.slice none 0 0)]]))⟩)
  · intro hJ1
    obtain ⟨r12, hr2, h⟩ := Option.bind_eq_some_iff.1 h
    refine Wk_regionZ fun Z hZ => ?_
    simp only [go_sem, seval, hr2]
    refine RX_guard_nbool rfl (fun hc3 => ?_) (fun hc3 => ?_)
    · rw [if_neg (ne_true_of_eq_false hc3)] at h
      simp only [go_sem, seval, hc3]
      refine hZ _ (pp (hJ1 _ true ?_ h))
      refine weak_roots ?_ ?_ <;> repeat' first | exact xn | exact rn | refine xc ?_ ?_ | refine rc ?_ ?_ ?_ | rfl
    rw [if_pos hc3] at h
    obtain ⟨r13, hr4, h⟩ := Option.bind_eq_some_iff.1 h
    simp only [go_sem, seval, hc3, hr4]
    refine RX_guard_nbool rfl (fun hc5 => ?_) (fun hc5 => ?_)
    · rw [if_neg (ne_true_of_eq_false hc5)] at h
      simp only [go_sem, seval, hc5]
      refine hZ _ (pp (hJ1 _ true ?_ h))
      refine weak_roots ?_ ?_ <;> repeat' first | exact xn | exact rn | refine xc ?_ ?_ | refine rc ?_ ?_ ?_ | rfl
    rw [if_pos hc5] at h
    obtain ⟨r14, hr6, h⟩ := Option.bind_eq_some_iff.1 h
    simp only [go_sem, seval, hc5, hr6]
    refine RX_guard_nbool rfl (fun hc7 => ?_) (fun hc7 => ?_)
    · rw [if_neg (ne_true_of_eq_false hc7)] at h
      simp only [go_sem, seval, hc7]
      refine hZ _ (pp (hJ1 _ true ?_ h))
      refine weak_roots ?_ ?_ <;> repeat' first | exact xn | exact rn | refine xc ?_ ?_ | refine rc ?_ ?_ ?_ | rfl
    rw [if_pos hc7] at h
    obtain ⟨r15, hr8, h⟩ := Option.bind_eq_some_iff.1 h
    simp only [go_sem, seval, hc7, hr8]
    refine hZ _ (pp (hJ1 _ (!r15) ?_ h))
    refine weak_roots ?_ ?_ <;> repeat' first | exact xn | exact rn | refine xc ?_ ?_ | refine rc ?_ ?_ ?_ | rfl
  intro c11 h
  unfold turns_Suspend_J1 at h
  refine Wk_cond_bool rfl (fun hc9 => ?_) (fun hc9 => ?_)
  · rw [if_pos hc9] at h
    refine Wk_seq (Wk_regionZ fun Z hZ => ?_)
    simp only [go_sem, seval, hc9]
    refine hZ _ (pp (Wk_ret (pp ?_)))
    cases h
    simp only [go_sem, seval]
    exact ⟨_, rfl, RokI.h⟩
  rw [if_neg (ne_true_of_eq_false hc9)] at h
  refine Wk_skip (pp ?_)
  unfold turns_Suspend_J4 at h
  refine Wk_seq ?_
  obtain ⟨r16, hr10, h⟩ := Option.bind_eq_some_iff.1 h
  refine Wk_regionZ fun Z hZ => ?_
  simp only [go_sem, seval, hc9, hr10]
  refine hZ _ (pp (Wk_seq ?_))
  apply Wk_join1 (fun (c21 : Bool) => ⟨tab 71 (updT (updT (updT (updT (updT (updT (updT deadT 2 (.val (.string a2))) 3 (.sl false none 5 none (a3.map Value.row))) 4 (.pref 4 [] 0 0)) 5 (.pref 5 [] 0 0)) 8 (.pref 8 [] 0 0)) 10 (.pref 10 [] 0 0)) 44 (.val (.bool c21))), (upd (upd (upd (upd RZ 4 (.sl true none 4 (some 1) [Actor.row a0])) 5 (.sl true none 2 (some 1) [[.val (.string a1.Type_), .val (.string a1.Key)]])) 8 (.sl true none 4 (some 1) [[.val (.string (⟨#[]⟩)), .val (.string (⟨#[]⟩)), .val (.int .i64 0), .val (.slice none 0 0)]])) 10 (.sl true none 30 (some 1) [Turn.row r16.1]))⟩)
  · intro hJ11
    refine Wk_regionZ fun Z hZ => ?_
    simp only [go_sem, seval]
    refine RX_guard_nbool rfl (fun hc12 => ?_) (fun hc12 => ?_)
    · rw [if_neg (ne_true_of_eq_false hc12)] at h
      simp only [go_sem, seval, hc12]
      refine hZ _ (pp (hJ11 _ true ?_ h))
      refine weak_roots ?_ ?_ <;> repeat' first | exact xn | exact rn | refine xc ?_ ?_ | refine rc ?_ ?_ ?_ | rfl
    rw [if_pos hc12] at h
    obtain ⟨r22, hr13, h⟩ := Option.bind_eq_some_iff.1 h
    simp only [go_sem, seval, hc12, hr13]
    refine hZ _ (pp (hJ11 _ (!r22) ?_ h))
    refine weak_roots ?_ ?_ <;> repeat' first | exact xn | exact rn | refine xc ?_ ?_ | refine rc ?_ ?_ ?_ | rfl
  intro c21 h
  unfold turns_Suspend_J2 at h
  refine Wk_cond_bool rfl (fun hc14 => ?_) (fun hc14 => ?_)
  · rw [if_pos hc14] at h
    refine Wk_seq (Wk_regionZ fun Z hZ => ?_)
    simp only [go_sem, seval, hc14]
    refine hZ _ (pp (Wk_ret (pp ?_)))
    cases h
    simp only [go_sem, seval]
    exact ⟨_, rfl, RokI.h⟩
  rw [if_neg (ne_true_of_eq_false hc14)] at h
  refine Wk_skip (pp ?_)
  unfold turns_Suspend_J3 at h
  refine Wk_seq ?_
  obtain ⟨r23, hr15, h⟩ := Option.bind_eq_some_iff.1 h
  refine Wk_regionZ fun Z hZ => ?_
  simp only [go_sem, seval, hc14, hr15]
  refine hZ _ (pp (Wk_seq (Wk_seq (Wk_regionZ fun Z hZ => ?_))))
  simp only [go_sem, seval]
  refine hZ _ (pp (Wk_cond_ndec rfl (fun hc16 => ?_) (fun hc16 => ?_)))
  · have hc16d := decide_eq_false hc16
    rw [if_neg hc16] at h
    refine Wk_seq (Wk_regionZ fun Z hZ => ?_)
    simp only [go_sem, seval, hc16d]
    refine hZ _ (pp (Wk_ret (pp ?_)))
    cases h
    simp only [go_sem, seval]
    exact ⟨_, rfl, RokI.h⟩
  have hc16d := decide_eq_true hc16
  rw [if_pos hc16] at h
  refine Wk_skip (pp (Wk_seq (Wk_regionZ fun Z hZ => ?_)))
  simp only [go_sem, seval, hc16d]
  refine hZ _ (pp (Wk_seq ?_))
  obtain ⟨r24, hr17, h⟩ := Option.bind_eq_some_iff.1 h
  refine Wk_regionZ fun Z hZ => ?_
  simp only [go_sem, seval, hr17]
  refine hZ _ (pp (Wk_ret (pp ?_)))
  cases h
  simp only [go_sem, seval]
  exact ⟨_, rfl, RokI.h⟩
def fs_turns_Suspend (N : Nat) : FnS := ⟨[], false, fn4 Actor.decA Ref.decA decS (decL 5 Value.dec) fun q0 q1 q2 q3 => (turns_Suspend N q0 q1 q2 q3).map fun r => .tup [.agg (Actor.row r.1), .val (.int .i64 r.2)], false⟩
attribute [go_sem] fs_turns_Suspend
theorem fs_turns_Suspend_ok (N : Nat) : FSOk Try.prog 35 (fs_turns_Suspend N) := ok4 (fun q0 q1 q2 q3 r h => by
  obtain ⟨r', hr, rfl⟩ := Option.map_eq_some_iff.1 h
  exact w_turns_Suspend N q0 q1 q2 q3 r' hr) (Actor.decA_le) (Ref.decA_le) (decS_le) (fun h => decL_le Value.dec_le h)


noncomputable def G_turns_suspended (N d f : Nat) : Option FnS := glist [(8, 74, fs_turns_top N), (15, 75, fs_turns_running N)] d f
attribute [go_sem] G_turns_suspended
theorem w_turns_suspended (N : Nat) (a0 : Actor) (r : Turn × Bool) (h : turns_suspended N a0 = some r) : Con Try.prog 50 [] false [.agg (Actor.row a0)] (.tup [.agg (Turn.row r.1), .val (.bool r.2)]) := by
  refine fun_ok4 (G := (G_turns_suspended N)) Try.func50 rfl (by decide) (by kernel_rfl) (gc 8 (fs_turns_top_ok N) (gc 15 (fs_turns_running_ok N) gn)) [] mix (Nat.le_of_ble_eq_true rfl) ?_
  simp only [Try.f50]
  unfold turns_suspended at h
  refine Wk_seq (Wk_regionZ fun Z hZ => ?_)
  simp only [go_sem, seval]
  refine hZ _ (pp (Wk_seq ?_))
  obtain ⟨r1, hr1, h⟩ := Option.bind_eq_some_iff.1 h
  refine Wk_regionZ fun Z hZ => ?_
  simp only [go_sem, seval, hr1]
  refine hZ _ (pp (Wk_seq (Wk_regionH fun Y hY => ?_)))
  refine RX2_s rfl rfl fun Z hZ => ?_
  simp only [go_sem, seval]
  refine hZ _ ?_
  refine RX2_s rfl rfl fun Z hZ => ?_
  simp only [go_sem, seval]
  refine hZ _ ?_
  refine RX2_s rfl rfl fun Z hZ => ?_
  simp only [go_sem, seval]
  refine hZ _ ?_
  refine RX2_guard_bool rfl (fun hc2 => ?_) (fun hc2 => ?_)
  · rw [if_pos hc2] at h
    refine RX2_norm fun Z hZ => ?_
    simp only [hc2]
    refine hZ _ ?_
    obtain ⟨r2, hr3, h⟩ := Option.bind_eq_some_iff.1 h
    refine RX2_g rfl fun Z hZ => ?_
    simp only [go_sem, seval]
    repeat with_reducible refine and_bar (by kernel_rfl) ?_
    refine hZ _ ?_
    refine RX2_g rfl fun Z hZ => ?_
    simp only [go_sem, seval, hr3]
    refine hZ _ ?_
    refine RX2_g rfl fun Z hZ => ?_
    simp only [go_sem, seval]
    refine hZ _ ?_
    refine RX2_s rfl rfl fun Z hZ => ?_
    simp only [go_sem, seval]
    refine hZ _ ?_
    refine RX2_w fun Z hZ => ?_
    simp only [go_sem, seval]
    refine hZ _ ?_
    refine RX2_s rfl rfl fun Z hZ => ?_
    simp only [go_sem, seval]
    refine hZ _ ?_
    refine RX2_end (by kernel_rfl) (hY _ (pp (Wk_ret (pp ?_))))
    cases h
    simp only [go_sem, seval]
    exact ⟨_, rfl, RokI.h⟩
  rw [if_neg (ne_true_of_eq_false hc2)] at h
  refine RX2_norm fun Z hZ => ?_
  simp only [hc2]
  refine hZ _ ?_
  refine RX2_g rfl fun Z hZ => ?_
  simp only [go_sem, seval]
  repeat with_reducible refine and_bar (by kernel_rfl) ?_
  refine hZ _ ?_
  refine RX2_g rfl fun Z hZ => ?_
  simp only [go_sem, seval]
  refine hZ _ ?_
  refine RX2_g rfl fun Z hZ => ?_
  simp only [go_sem, seval]
  refine hZ _ ?_
  refine RX2_s rfl rfl fun Z hZ => ?_
  simp only [go_sem, seval]
  refine hZ _ ?_
  refine RX2_w fun Z hZ => ?_
  simp only [go_sem, seval]
  refine hZ _ ?_
  refine RX2_s rfl rfl fun Z hZ => ?_
  simp only [go_sem, seval]
  refine hZ _ ?_
  refine RX2_end (by kernel_rfl) (hY _ (pp (Wk_ret (pp ?_))))
  cases h
  simp only [go_sem, seval]
  exact ⟨_, rfl, RokI.h⟩
def fs_turns_suspended (N : Nat) : FnS := ⟨[], false, fn1 Actor.decA fun q0 => (turns_suspended N q0).map fun r => .tup [.agg (Turn.row r.1), .val (.bool r.2)], false⟩
attribute [go_sem] fs_turns_suspended
theorem fs_turns_suspended_ok (N : Nat) : FSOk Try.prog 50 (fs_turns_suspended N) := ok1 (fun q0 r h => by
  obtain ⟨r', hr, rfl⟩ := Option.map_eq_some_iff.1 h
  exact w_turns_suspended N q0 r' hr) (Actor.decA_le)


noncomputable def G_turns_StartCall (N d f : Nat) : Option FnS := glist [(13, 15, fs_turns_Valid N), (18, 50, fs_turns_suspended N), (30, 21, fs_turns_SameID N), (41, 78, fs_turns_replaced N)] d f
attribute [go_sem] G_turns_StartCall
theorem w_turns_StartCall (N : Nat) (a0 : Actor) (a1 : ByteArray) (a2 : Int) (a3 : (List Int)) (r : Actor × Int) (h : turns_StartCall N a0 a1 a2 a3 = some r) : Con Try.prog 37 [] false [.agg (Actor.row a0), .val (.string a1), .val (.int .i64 a2), .sl false none 1 none (a3.map (rowI .i64))] (.tup [.agg (Actor.row r.1), .val (.int .i64 r.2)]) := by
  refine fun_ok4 (G := (G_turns_StartCall N)) Try.func37 rfl (by decide) (by kernel_rfl) (gc 13 (fs_turns_Valid_ok N) (gc 18 (fs_turns_suspended_ok N) (gc 30 (fs_turns_SameID_ok N) (gc 41 (fs_turns_replaced_ok N) gn)))) [] mix (Nat.le_of_ble_eq_true rfl) ?_
  simp only [Try.f37]
  unfold turns_StartCall at h
  refine Wk_seq (Wk_regionZ fun Z hZ => ?_)
  simp only [go_sem, seval]
  refine hZ _ (pp (Wk_seq (Wk_seq ?_)))
  obtain ⟨r1, hr1, h⟩ := Option.bind_eq_some_iff.1 h
  refine Wk_regionZ fun Z hZ => ?_
  simp only [go_sem, seval, hr1]
  refine hZ _ (pp (Wk_cond_nbool rfl (fun hc2 => ?_) (fun hc2 => ?_)))
  · rw [if_neg (ne_true_of_eq_false hc2)] at h
    refine Wk_seq (Wk_regionZ fun Z hZ => ?_)
    simp only [go_sem, seval, hc2]
    refine hZ _ (pp (Wk_ret (pp ?_)))
    cases h
    simp only [go_sem, seval]
    exact ⟨_, rfl, RokI.h⟩
  rw [if_pos hc2] at h
  refine Wk_skip (pp (Wk_seq ?_))
  obtain ⟨r2, hr3, h⟩ := Option.bind_eq_some_iff.1 h
  refine Wk_regionZ fun Z hZ => ?_
  simp only [go_sem, seval, hc2, hr3]
  refine hZ _ (pp (Wk_seq (Wk_block ?_)))
  apply Wk_join1 (fun (c7 : Bool) => ⟨tab 44 (updT (updT (updT (updT deadT 4 (.pref 4 [] 0 0)) 8 (.pref 8 [] 0 0)) 10 (.pref 10 [] 0 0)) 21 (.val (.bool c7))), (upd (upd (upd RZ 4 (.sl true none 4 (some 1) [Actor.row a0])) 8 (.sl true none 4 (some 1) [[.val (.string (⟨#[]⟩)), .val (.string (⟨#[]⟩)), .val (.int .i64 0), .val (.slice none 0 0)]])) 10 (.sl true none 30 (some 1) [Turn.row r2.1]))⟩)
  · intro hJ4
    refine Wk_regionZ fun Z hZ => ?_
    simp only [go_sem, seval]
    refine RX_guard_nbool rfl (fun hc5 => ?_) (fun hc5 => ?_)
    · rw [if_neg (ne_true_of_eq_false hc5)] at h
      simp only [go_sem, seval, hc5]
      refine hZ _ (pp (hJ4 _ true ?_ h))
      refine weak_roots ?_ ?_ <;> repeat' first | exact xn | exact rn | refine xc ?_ ?_ | refine rc ?_ ?_ ?_ | rfl
    rw [if_pos hc5] at h
    obtain ⟨r8, hr6, h⟩ := Option.bind_eq_some_iff.1 h
    simp only [go_sem, seval, hc5, hr6]
    refine hZ _ (pp (hJ4 _ (!r8) ?_ h))
    refine weak_roots ?_ ?_ <;> repeat' first | exact xn | exact rn | refine xc ?_ ?_ | refine rc ?_ ?_ ?_ | rfl
  intro c7 h
  unfold turns_StartCall_J1 at h
  refine Wk_cond_bool rfl (fun hc7 => ?_) (fun hc7 => ?_)
  · rw [if_pos hc7] at h
    refine Wk_seq (Wk_regionZ fun Z hZ => ?_)
    simp only [go_sem, seval, hc7]
    refine hZ _ (pp (Wk_ret (pp ?_)))
    cases h
    simp only [go_sem, seval]
    exact ⟨_, rfl, RokI.h⟩
  rw [if_neg (ne_true_of_eq_false hc7)] at h
  refine Wk_seq (Wk_regionZ fun Z hZ => ?_)
  simp only [go_sem, seval, hc7]
  refine hZ _ (pp (Wk_cond_bool rfl (fun hc8 => ?_) (fun hc8 => ?_)))
  · rw [if_pos hc8] at h
    refine Wk_seq (Wk_regionZ fun Z hZ => ?_)
    simp only [go_sem, seval, hc8]
    refine hZ _ (pp (Wk_ret (pp ?_)))
    cases h
    simp only [go_sem, seval]
    exact ⟨_, rfl, RokI.h⟩
  rw [if_neg (ne_true_of_eq_false hc8)] at h
  refine Wk_skip (pp ?_)
  unfold turns_StartCall_J2 at h
  refine Wk_seq (Wk_regionZ fun Z hZ => ?_)
  simp only [go_sem, seval, hc8]
  refine hZ _ (pp (Wk_seq ?_))
  obtain ⟨r9, hr9, h⟩ := Option.bind_eq_some_iff.1 h
  refine Wk_regionZ fun Z hZ => ?_
  simp only [go_sem, seval, hr9]
  refine hZ _ (pp (Wk_ret (pp ?_)))
  cases h
  simp only [go_sem, seval]
  exact ⟨_, rfl, RokI.h⟩
def fs_turns_StartCall (N : Nat) : FnS := ⟨[], false, fn4 Actor.decA decS (decI .i64) (decL 1 (dec1 (decI .i64))) fun q0 q1 q2 q3 => (turns_StartCall N q0 q1 q2 q3).map fun r => .tup [.agg (Actor.row r.1), .val (.int .i64 r.2)], false⟩
attribute [go_sem] fs_turns_StartCall
theorem fs_turns_StartCall_ok (N : Nat) : FSOk Try.prog 37 (fs_turns_StartCall N) := ok4 (fun q0 q1 q2 q3 r h => by
  obtain ⟨r', hr, rfl⟩ := Option.map_eq_some_iff.1 h
  exact w_turns_StartCall N q0 q1 q2 q3 r' hr) (Actor.decA_le) (decS_le) (decI_le) (fun h => decL_le (decI1_le .i64) h)


noncomputable def G_turns_Waiting (N d f : Nat) : Option FnS := glist [(8, 50, fs_turns_suspended N), (12, 15, fs_turns_Valid N), (25, 51, fso_turns_cloneRequest N)] d f
attribute [go_sem] G_turns_Waiting
theorem w_turns_Waiting (N : Nat) (a0 : Actor) (r : Request × Bool) (h : turns_Waiting N a0 = some r) : Con Try.prog 13 [] false [.agg (Actor.row a0)] (.tup [.agg [.val (.string r.1.Client), .val (.int .i64 r.1.Seq), .sl true none 1 none (r.1.Path.map (rowI .i64)), .val (.string r.1.Target.Type_), .val (.string r.1.Target.Key), .val (.string r.1.Method), .sl true none 5 none (r.1.Args.map Value.row), .sl true none 2 none (r.1.Chain.map Ref.row), .val (.int .i64 r.1.Txn)], .val (.bool r.2)]) := by
  refine fun_ok4 (G := (G_turns_Waiting N)) Try.func13 rfl (by decide) (by kernel_rfl) (gc 8 (fs_turns_suspended_ok N) (gc 12 (fs_turns_Valid_ok N) (gc 25 (fso_turns_cloneRequest_ok N) gn))) [] mix (Nat.le_of_ble_eq_true rfl) ?_
  simp only [Try.f13]
  unfold turns_Waiting at h
  refine Wk_seq (Wk_regionZ fun Z hZ => ?_)
  simp only [go_sem, seval]
  refine hZ _ (pp (Wk_seq ?_))
  obtain ⟨r1, hr1, h⟩ := Option.bind_eq_some_iff.1 h
  refine Wk_regionZ fun Z hZ => ?_
  simp only [go_sem, seval, hr1]
  refine hZ _ (pp (Wk_seq ?_))
  apply Wk_join1 (fun (c6 : Bool) => ⟨tab 26 (updT (updT (updT deadT 2 (.pref 2 [] 0 0)) 4 (.pref 4 [] 0 0)) 21 (.val (.bool c6))), (upd (upd RZ 2 (.sl true none 9 (some 1) [[.val (.string (⟨#[]⟩)), .val (.int .i64 0), .val (.slice none 0 0), .val (.string (⟨#[]⟩)), .val (.string (⟨#[]⟩)), .val (.string (⟨#[]⟩)), .val (.slice none 0 0), .val (.slice none 0 0), .val (.int .i64 0)]])) 4 (.sl true none 30 (some 1) [Turn.row r1.1]))⟩)
  · intro hJ2
    obtain ⟨r7, hr3, h⟩ := Option.bind_eq_some_iff.1 h
    refine Wk_regionZ fun Z hZ => ?_
    simp only [go_sem, seval, hr3]
    refine RX_guard_nbool rfl (fun hc4 => ?_) (fun hc4 => ?_)
    · rw [if_neg (ne_true_of_eq_false hc4)] at h
      simp only [go_sem, seval, hc4]
      refine hZ _ (pp (hJ2 _ true ?_ h))
      refine weak_roots ?_ ?_ <;> repeat' first | exact xn | exact rn | refine xc ?_ ?_ | refine rc ?_ ?_ ?_ | rfl
    rw [if_pos hc4] at h
    simp only [go_sem, seval, hc4]
    refine RX_guard_nbool rfl (fun hc5 => ?_) (fun hc5 => ?_)
    · rw [if_neg (ne_true_of_eq_false hc5)] at h
      simp only [go_sem, seval, hc5]
      refine hZ _ (pp (hJ2 _ true ?_ h))
      refine weak_roots ?_ ?_ <;> repeat' first | exact xn | exact rn | refine xc ?_ ?_ | refine rc ?_ ?_ ?_ | rfl
    rw [if_pos hc5] at h
    simp only [go_sem, seval, hc5]
    refine hZ _ (pp (hJ2 _ r1.1.Done ?_ h))
    refine weak_roots ?_ ?_ <;> repeat' first | exact xn | exact rn | refine xc ?_ ?_ | refine rc ?_ ?_ ?_ | rfl
  intro c6 h
  unfold turns_Waiting_J1 at h
  refine Wk_cond_bool rfl (fun hc6 => ?_) (fun hc6 => ?_)
  · rw [if_pos hc6] at h
    refine Wk_seq (Wk_regionZ fun Z hZ => ?_)
    simp only [go_sem, seval, hc6]
    refine hZ _ (pp (Wk_ret (pp ?_)))
    cases h
    simp only [go_sem, seval]
    exact ⟨_, rfl, RokI.h⟩
  rw [if_neg (ne_true_of_eq_false hc6)] at h
  refine Wk_skip (pp ?_)
  unfold turns_Waiting_J2 at h
  refine Wk_seq ?_
  obtain ⟨r8, hr7, h⟩ := Option.bind_eq_some_iff.1 h
  refine Wk_regionZ fun Z hZ => ?_
  simp only [go_sem, seval, hc6, hr7]
  refine hZ _ (pp (Wk_ret (pp ?_)))
  cases h
  simp only [go_sem, seval]
  exact ⟨_, rfl, RokI.h⟩
def fs_turns_Waiting (N : Nat) : FnS := ⟨[], false, fn1 Actor.decA fun q0 => (turns_Waiting N q0).map fun r => .tup [.agg (Request.row r.1), .val (.bool r.2)], false⟩
attribute [go_sem] fs_turns_Waiting
theorem fs_turns_Waiting_ok (N : Nat) : FSOk Try.prog 13 (fs_turns_Waiting N) := ok1 (fun q0 r h => by
  obtain ⟨r', hr, rfl⟩ := Option.map_eq_some_iff.1 h
  exact (w_turns_Waiting N q0 r' hr).res (by (try simp only [go_sem]); exact RokI.h)) (Actor.decA_le)

def fso_turns_Waiting (N : Nat) : FnS := ⟨[], false, fn1 Actor.decA fun q0 => (turns_Waiting N q0).map fun r => .tup [.agg [.val (.string r.1.Client), .val (.int .i64 r.1.Seq), .sl true none 1 none (r.1.Path.map (rowI .i64)), .val (.string r.1.Target.Type_), .val (.string r.1.Target.Key), .val (.string r.1.Method), .sl true none 5 none (r.1.Args.map Value.row), .sl true none 2 none (r.1.Chain.map Ref.row), .val (.int .i64 r.1.Txn)], .val (.bool r.2)], false⟩
attribute [go_sem] fso_turns_Waiting
theorem fso_turns_Waiting_ok (N : Nat) : FSOk Try.prog 13 (fso_turns_Waiting N) := ok1 (fun q0 r h => by
  obtain ⟨r', hr, rfl⟩ := Option.map_eq_some_iff.1 h
  exact w_turns_Waiting N q0 r' hr) (Actor.decA_le)


noncomputable def G_turns_Answer (N d f : Nat) : Option FnS := glist [(9, 15, fs_turns_Valid N), (13, 19, fs_turns_ValidReply N), (19, 50, fs_turns_suspended N), (34, 21, fs_turns_SameID N), (52, 78, fs_turns_replaced N)] d f
attribute [go_sem] G_turns_Answer
theorem w_turns_Answer (N : Nat) (a0 : Actor) (a1 : Reply) (r : Actor × Int) (h : turns_Answer N a0 a1 = some r) : Con Try.prog 39 [] false [.agg (Actor.row a0), .agg (Reply.row a1)] (.tup [.agg (Actor.row r.1), .val (.int .i64 r.2)]) := by
  refine fun_ok4 (G := (G_turns_Answer N)) Try.func39 rfl (by decide) (by kernel_rfl) (gc 9 (fs_turns_Valid_ok N) (gc 13 (fs_turns_ValidReply_ok N) (gc 19 (fs_turns_suspended_ok N) (gc 34 (fs_turns_SameID_ok N) (gc 52 (fs_turns_replaced_ok N) gn))))) [] mix (Nat.le_of_ble_eq_true rfl) ?_
  simp only [Try.f39]
  unfold turns_Answer at h
  refine Wk_seq (Wk_regionZ fun Z hZ => ?_)
  simp only [go_sem, seval]
  refine hZ _ (pp (Wk_seq ?_))
  apply Wk_join1 (fun (c7 : Bool) => ⟨tab 55 (updT (updT (updT (updT deadT 2 (.pref 2 [] 0 0)) 3 (.pref 3 [] 0 0)) 4 (.pref 4 [] 0 0)) 15 (.val (.bool c7))), (upd (upd (upd RZ 2 (.sl true none 4 (some 1) [Actor.row a0])) 3 (.sl true none 9 (some 1) [Reply.row a1])) 4 (.sl true none 4 (some 1) [[.val (.string (⟨#[]⟩)), .val (.string (⟨#[]⟩)), .val (.int .i64 0), .val (.slice none 0 0)]]))⟩)
  · intro hJ1
    obtain ⟨r8, hr2, h⟩ := Option.bind_eq_some_iff.1 h
    refine Wk_regionZ fun Z hZ => ?_
    simp only [go_sem, seval, hr2]
    refine RX_guard_nbool rfl (fun hc3 => ?_) (fun hc3 => ?_)
    · rw [if_neg (ne_true_of_eq_false hc3)] at h
      simp only [go_sem, seval, hc3]
      refine hZ _ (pp (hJ1 _ true ?_ h))
      refine weak_roots ?_ ?_ <;> repeat' first | exact xn | exact rn | refine xc ?_ ?_ | refine rc ?_ ?_ ?_ | rfl | simp only [go_sem, seval, Bool.or_self, List.length_set, Int.natCast_zero, Int.cast_ofNat_Int, hr2, hc3]
    rw [if_pos hc3] at h
    obtain ⟨r9, hr4, h⟩ := Option.bind_eq_some_iff.1 h
    simp only [go_sem, seval, hc3, hr4]
    refine hZ _ (pp (hJ1 _ (!r9) ?_ h))
    refine weak_roots ?_ ?_ <;> repeat' first | exact xn | exact rn | refine xc ?_ ?_ | refine rc ?_ ?_ ?_ | rfl | simp only [go_sem, seval, Bool.or_self, List.length_set, Int.natCast_zero, Int.cast_ofNat_Int, hr2, hc3, hr4]
  intro c7 h
  unfold turns_Answer_J1 at h
  refine Wk_cond_bool rfl (fun hc5 => ?_) (fun hc5 => ?_)
  · rw [if_pos hc5] at h
    refine Wk_seq (Wk_regionZ fun Z hZ => ?_)
    simp only [go_sem, seval, hc5]
    refine hZ _ (pp (Wk_ret (pp ?_)))
    cases h
    simp only [go_sem, seval]
    exact ⟨_, rfl, RokI.h⟩
  rw [if_neg (ne_true_of_eq_false hc5)] at h
  refine Wk_skip (pp ?_)
  unfold turns_Answer_J5 at h
  refine Wk_seq ?_
  obtain ⟨r10, hr6, h⟩ := Option.bind_eq_some_iff.1 h
  refine Wk_regionZ fun Z hZ => ?_
  simp only [go_sem, seval, hc5, hr6]
  refine hZ _ (pp (Wk_seq (Wk_block ?_)))
  apply Wk_join1 (fun (c17 : Bool) => ⟨tab 55 (updT (updT (updT (updT (updT deadT 2 (.pref 2 [] 0 0)) 3 (.pref 3 [] 0 0)) 4 (.pref 4 [] 0 0)) 6 (.pref 6 [] 0 0)) 22 (.val (.bool c17))), (upd (upd (upd (upd RZ 2 (.sl true none 4 (some 1) [Actor.row a0])) 3 (.sl true none 9 (some 1) [Reply.row a1])) 4 (.sl true none 4 (some 1) [[.val (.string (⟨#[]⟩)), .val (.string (⟨#[]⟩)), .val (.int .i64 0), .val (.slice none 0 0)]])) 6 (.sl true none 30 (some 1) [Turn.row r10.1]))⟩)
  · intro hJ7
    refine Wk_regionZ fun Z hZ => ?_
    simp only [go_sem, seval]
    refine RX_guard_nbool rfl (fun hc8 => ?_) (fun hc8 => ?_)
    · rw [if_neg (ne_true_of_eq_false hc8)] at h
      simp only [go_sem, seval, hc8]
      refine hZ _ (pp (hJ7 _ true ?_ h))
      refine weak_roots ?_ ?_ <;> repeat' first | exact xn | exact rn | refine xc ?_ ?_ | refine rc ?_ ?_ ?_ | rfl | simp only [go_sem, seval, Bool.or_self, List.length_set, Int.natCast_zero, Int.cast_ofNat_Int, hc5, hr6, hc8]
    rw [if_pos hc8] at h
    obtain ⟨r18, hr9, h⟩ := Option.bind_eq_some_iff.1 h
    simp only [go_sem, seval, hc8, hr9]
    refine hZ _ (pp (hJ7 _ (!r18) ?_ h))
    refine weak_roots ?_ ?_ <;> repeat' first | exact xn | exact rn | refine xc ?_ ?_ | refine rc ?_ ?_ ?_ | rfl | simp only [go_sem, seval, Bool.or_self, List.length_set, Int.natCast_zero, Int.cast_ofNat_Int, hc5, hr6, hc8, hr9]
  intro c17 h
  unfold turns_Answer_J3 at h
  refine Wk_cond_bool rfl (fun hc10 => ?_) (fun hc10 => ?_)
  · rw [if_pos hc10] at h
    refine Wk_seq (Wk_regionZ fun Z hZ => ?_)
    simp only [go_sem, seval, hc10]
    refine hZ _ (pp (Wk_ret (pp ?_)))
    cases h
    simp only [go_sem, seval]
    exact ⟨_, rfl, RokI.h⟩
  rw [if_neg (ne_true_of_eq_false hc10)] at h
  apply Wk_join1 (fun (c19 : Bool) => ⟨tab 55 (updT (updT (updT (updT (updT deadT 2 (.pref 2 [] 0 0)) 3 (.pref 3 [] 0 0)) 4 (.pref 4 [] 0 0)) 6 (.pref 6 [] 0 0)) 38 (.val (.bool c19))), (upd (upd (upd (upd RZ 2 (.sl true none 4 (some 1) [Actor.row a0])) 3 (.sl true none 9 (some 1) [Reply.row a1])) 4 (.sl true none 4 (some 1) [[.val (.string (⟨#[]⟩)), .val (.string (⟨#[]⟩)), .val (.int .i64 0), .val (.slice none 0 0)]])) 6 (.sl true none 30 (some 1) [Turn.row r10.1]))⟩)
  · intro hJ11
    refine Wk_regionZ fun Z hZ => ?_
    simp only [go_sem, seval, hc10]
    refine RX_guard_nbool rfl (fun hc12 => ?_) (fun hc12 => ?_)
    · rw [if_neg (ne_true_of_eq_false hc12)] at h
      simp only [go_sem, seval, hc12]
      refine hZ _ (pp (hJ11 _ true ?_ h))
      refine weak_roots ?_ ?_ <;> repeat' first | exact xn | exact rn | refine xc ?_ ?_ | refine rc ?_ ?_ ?_ | rfl | simp only [go_sem, seval, hc12]
    rw [if_pos hc12] at h
    simp only [go_sem, seval, hc12]
    refine hZ _ (pp (hJ11 _ r10.1.Done ?_ h))
    refine weak_roots ?_ ?_ <;> repeat' first | exact xn | exact rn | refine xc ?_ ?_ | refine rc ?_ ?_ ?_ | rfl | simp only [go_sem, seval, hc12]
  intro c19 h
  unfold turns_Answer_J2 at h
  refine Wk_cond_bool rfl (fun hc13 => ?_) (fun hc13 => ?_)
  · rw [if_pos hc13] at h
    refine Wk_seq (Wk_regionZ fun Z hZ => ?_)
    simp only [go_sem, seval, hc13]
    refine hZ _ (pp (Wk_ret (pp ?_)))
    cases h
    simp only [go_sem, seval]
    exact ⟨_, rfl, RokI.h⟩
  rw [if_neg (ne_true_of_eq_false hc13)] at h
  refine Wk_skip (pp ?_)
  unfold turns_Answer_J4 at h
  refine Wk_seq (Wk_regionH fun Y hY => ?_)
  refine RX2_s rfl rfl fun Z hZ => ?_
  simp only [go_sem, seval, hc13]
  repeat with_reducible refine and_bar (by kernel_rfl) ?_
  refine hZ _ ?_
  refine RX2_s rfl rfl fun Z hZ => ?_
  simp only [go_sem, seval]
  refine hZ _ ?_
  refine RX2_w fun Z hZ => ?_
  simp only [go_sem, seval]
  refine hZ _ ?_
  refine RX2_s rfl rfl fun Z hZ => ?_
  simp only [go_sem, seval]
  refine hZ _ ?_
  refine RX2_w fun Z hZ => ?_
  simp only [go_sem, seval]
  refine hZ _ ?_
  refine RX2_end (by kernel_rfl) (hY _ (pp (Wk_seq ?_)))
  obtain ⟨r20, hr14, h⟩ := Option.bind_eq_some_iff.1 h
  refine Wk_regionZ fun Z hZ => ?_
  simp only [go_sem, seval, hr14]
  refine hZ _ (pp (Wk_ret (pp ?_)))
  cases h
  simp only [go_sem, seval]
  exact ⟨_, rfl, RokI.h⟩
def fs_turns_Answer (N : Nat) : FnS := ⟨[], false, fn2 Actor.decA Reply.decA fun q0 q1 => (turns_Answer N q0 q1).map fun r => .tup [.agg (Actor.row r.1), .val (.int .i64 r.2)], false⟩
attribute [go_sem] fs_turns_Answer
theorem fs_turns_Answer_ok (N : Nat) : FSOk Try.prog 39 (fs_turns_Answer N) := ok2 (fun q0 q1 r h => by
  obtain ⟨r', hr, rfl⟩ := Option.map_eq_some_iff.1 h
  exact w_turns_Answer N q0 q1 r' hr) (Actor.decA_le) (Reply.decA_le)


noncomputable def G_turns_Resume (N d f : Nat) : Option FnS := glist [(10, 15, fs_turns_Valid N), (16, 50, fs_turns_suspended N), (37, 78, fs_turns_replaced N), (48, 80, fso_turns_cloneReply N)] d f
attribute [go_sem] G_turns_Resume
theorem w_turns_Resume (N : Nat) (a0 : Actor) (r : Actor × Reply × Int) (h : turns_Resume N a0 = some r) : Con Try.prog 41 [] false [.agg (Actor.row a0)] (.tup [.agg (Actor.row r.1), .agg [.val (.string r.2.1.Client), .val (.int .i64 r.2.1.Seq), .sl true none 1 none (r.2.1.Path.map (rowI .i64)), .val (.int .i64 r.2.1.Err), .val (.int .i64 r.2.1.Value_.Kind), .val (.int .i64 r.2.1.Value_.N), .val (.string r.2.1.Value_.S), .sl true none 1 none (r.2.1.Value_.I.map (rowI .i64)), .sl true none 1 none (r.2.1.Value_.L.map rowS)], .val (.int .i64 r.2.2)]) := by
  refine fun_ok4 (G := (G_turns_Resume N)) Try.func41 rfl (by decide) (by kernel_rfl) (gc 10 (fs_turns_Valid_ok N) (gc 16 (fs_turns_suspended_ok N) (gc 37 (fs_turns_replaced_ok N) (gc 48 (fso_turns_cloneReply_ok N) gn)))) [] mix (Nat.le_of_ble_eq_true rfl) ?_
  simp only [Try.f41]
  unfold turns_Resume at h
  refine Wk_seq (Wk_regionZ fun Z hZ => ?_)
  simp only [go_sem, seval]
  refine hZ _ (pp (Wk_seq (Wk_seq ?_)))
  obtain ⟨r1, hr1, h⟩ := Option.bind_eq_some_iff.1 h
  refine Wk_regionZ fun Z hZ => ?_
  simp only [go_sem, seval, hr1]
  refine hZ _ (pp (Wk_cond_nbool rfl (fun hc2 => ?_) (fun hc2 => ?_)))
  · rw [if_neg (ne_true_of_eq_false hc2)] at h
    refine Wk_seq (Wk_regionZ fun Z hZ => ?_)
    simp only [go_sem, seval, hc2]
    refine hZ _ (pp (Wk_ret (pp ?_)))
    cases h
    simp only [go_sem, seval]
    exact ⟨_, rfl, RokI.h⟩
  rw [if_pos hc2] at h
  refine Wk_skip (pp (Wk_seq ?_))
  obtain ⟨r2, hr3, h⟩ := Option.bind_eq_some_iff.1 h
  refine Wk_regionZ fun Z hZ => ?_
  simp only [go_sem, seval, hc2, hr3]
  refine hZ _ (pp (Wk_seq (Wk_block (Wk_seq (Wk_regionZ fun Z hZ => ?_)))))
  simp only [go_sem, seval]
  refine hZ _ (pp (Wk_cond_nbool rfl (fun hc4 => ?_) (fun hc4 => ?_)))
  · rw [if_neg (ne_true_of_eq_false hc4)] at h
    refine Wk_seq (Wk_regionZ fun Z hZ => ?_)
    simp only [go_sem, seval, hc4]
    refine hZ _ (pp (Wk_ret (pp ?_)))
    cases h
    simp only [go_sem, seval]
    exact ⟨_, rfl, RokI.h⟩
  rw [if_pos hc4] at h
  refine Wk_seq (Wk_regionZ fun Z hZ => ?_)
  simp only [go_sem, seval, hc4]
  refine hZ _ (pp (Wk_cond_nbool rfl (fun hc5 => ?_) (fun hc5 => ?_)))
  · rw [if_neg (ne_true_of_eq_false hc5)] at h
    refine Wk_seq (Wk_regionZ fun Z hZ => ?_)
    simp only [go_sem, seval, hc5]
    refine hZ _ (pp (Wk_ret (pp ?_)))
    cases h
    simp only [go_sem, seval]
    exact ⟨_, rfl, RokI.h⟩
  rw [if_pos hc5] at h
  refine Wk_skip (pp (Wk_seq ?_))
  obtain ⟨r3, hr6, h⟩ := Option.bind_eq_some_iff.1 h
  refine Wk_regionZ fun Z hZ => ?_
  simp only [go_sem, seval, hc5, hr6]
  refine hZ _ (pp (Wk_seq (Wk_seq (Wk_regionZ fun Z hZ => ?_))))
  simp only [go_sem, seval]
  refine hZ _ (pp (Wk_cond_ndec rfl (fun hc7 => ?_) (fun hc7 => ?_)))
  · have hc7d := decide_eq_false hc7
    rw [if_neg hc7] at h
    refine Wk_seq (Wk_regionZ fun Z hZ => ?_)
    simp only [go_sem, seval, hc7d]
    refine hZ _ (pp (Wk_ret (pp ?_)))
    cases h
    simp only [go_sem, seval]
    exact ⟨_, rfl, RokI.h⟩
  have hc7d := decide_eq_true hc7
  rw [if_pos hc7] at h
  refine Wk_skip (pp (Wk_seq ?_))
  obtain ⟨r4, hr8, h⟩ := Option.bind_eq_some_iff.1 h
  refine Wk_regionD fun Z hZ => ?_
  simp only [go_sem, seval, hc7d, hr8]
  repeat with_reducible refine and_bar (by kernel_rfl) ?_
  refine hZ _ (by kernel_rfl) (pp (Wk_ret (pp ?_)))
  cases h
  simp only [go_sem, seval]
  exact ⟨_, rfl, RokI.h⟩
def fs_turns_Resume (N : Nat) : FnS := ⟨[], false, fn1 Actor.decA fun q0 => (turns_Resume N q0).map fun r => .tup [.agg (Actor.row r.1), .agg (Reply.row r.2.1), .val (.int .i64 r.2.2)], false⟩
attribute [go_sem] fs_turns_Resume
theorem fs_turns_Resume_ok (N : Nat) : FSOk Try.prog 41 (fs_turns_Resume N) := ok1 (fun q0 r h => by
  obtain ⟨r', hr, rfl⟩ := Option.map_eq_some_iff.1 h
  exact (w_turns_Resume N q0 r' hr).res (by (try simp only [go_sem]); exact RokI.h)) (Actor.decA_le)

def fso_turns_Resume (N : Nat) : FnS := ⟨[], false, fn1 Actor.decA fun q0 => (turns_Resume N q0).map fun r => .tup [.agg (Actor.row r.1), .agg [.val (.string r.2.1.Client), .val (.int .i64 r.2.1.Seq), .sl true none 1 none (r.2.1.Path.map (rowI .i64)), .val (.int .i64 r.2.1.Err), .val (.int .i64 r.2.1.Value_.Kind), .val (.int .i64 r.2.1.Value_.N), .val (.string r.2.1.Value_.S), .sl true none 1 none (r.2.1.Value_.I.map (rowI .i64)), .sl true none 1 none (r.2.1.Value_.L.map rowS)], .val (.int .i64 r.2.2)], false⟩
attribute [go_sem] fso_turns_Resume
theorem fso_turns_Resume_ok (N : Nat) : FSOk Try.prog 41 (fso_turns_Resume N) := ok1 (fun q0 r h => by
  obtain ⟨r', hr, rfl⟩ := Option.map_eq_some_iff.1 h
  exact w_turns_Resume N q0 r' hr) (Actor.decA_le)


noncomputable def G_turns_End (N d f : Nat) : Option FnS := glist [(10, 15, fs_turns_Valid N), (16, 74, fs_turns_top N), (23, 75, fs_turns_running N), (34, 73, fs_turns_changed N), (45, 51, fs_turns_cloneRequest N)] d f
attribute [go_sem] G_turns_End
theorem w_turns_End (N : Nat) (a0 : Actor) (r : Actor × Request × Int) (h : turns_End N a0 = some r) : Con Try.prog 31 [] false [.agg (Actor.row a0)] (.tup [.agg (Actor.row r.1), .agg (Request.row r.2.1), .val (.int .i64 r.2.2)]) := by
  refine fun_ok4 (G := (G_turns_End N)) Try.func31 rfl (by decide) (by kernel_rfl) (gc 10 (fs_turns_Valid_ok N) (gc 16 (fs_turns_top_ok N) (gc 23 (fs_turns_running_ok N) (gc 34 (fs_turns_changed_ok N) (gc 45 (fs_turns_cloneRequest_ok N) gn))))) [] mix (Nat.le_of_ble_eq_true rfl) ?_
  simp only [Try.f31]
  unfold turns_End at h
  refine Wk_seq (Wk_regionZ fun Z hZ => ?_)
  simp only [go_sem, seval]
  refine hZ _ (pp (Wk_seq (Wk_seq ?_)))
  obtain ⟨r1, hr1, h⟩ := Option.bind_eq_some_iff.1 h
  refine Wk_regionZ fun Z hZ => ?_
  simp only [go_sem, seval, hr1]
  refine hZ _ (pp (Wk_cond_nbool rfl (fun hc2 => ?_) (fun hc2 => ?_)))
  · rw [if_neg (ne_true_of_eq_false hc2)] at h
    refine Wk_seq (Wk_regionZ fun Z hZ => ?_)
    simp only [go_sem, seval, hc2]
    refine hZ _ (pp (Wk_ret (pp ?_)))
    cases h
    simp only [go_sem, seval]
    exact ⟨_, rfl, RokI.h⟩
  rw [if_pos hc2] at h
  refine Wk_skip (pp (Wk_seq ?_))
  obtain ⟨r2, hr3, h⟩ := Option.bind_eq_some_iff.1 h
  refine Wk_regionZ fun Z hZ => ?_
  simp only [go_sem, seval, hc2, hr3]
  refine hZ _ (pp (Wk_seq ?_))
  apply Wk_join1 (fun (c7 : Bool) => ⟨tab 46 (updT (updT (updT (updT (updT deadT 1 (.pref 1 [] 0 0)) 2 (.pref 2 [] 0 0)) 3 (.pref 3 [] 0 0)) 5 (.pref 5 [] 0 0)) 25 (.val (.bool c7))), (upd (upd (upd (upd RZ 1 (.sl true none 4 (some 1) [Actor.row a0])) 2 (.sl true none 4 (some 1) [[.val (.string (⟨#[]⟩)), .val (.string (⟨#[]⟩)), .val (.int .i64 0), .val (.slice none 0 0)]])) 3 (.sl true none 9 (some 1) [[.val (.string (⟨#[]⟩)), .val (.int .i64 0), .val (.slice none 0 0), .val (.string (⟨#[]⟩)), .val (.string (⟨#[]⟩)), .val (.string (⟨#[]⟩)), .val (.slice none 0 0), .val (.slice none 0 0), .val (.int .i64 0)]])) 5 (.sl true none 30 (some 1) [Turn.row r2.1]))⟩)
  · intro hJ4
    refine Wk_regionZ fun Z hZ => ?_
    simp only [go_sem, seval]
    refine RX_guard_nbool rfl (fun hc5 => ?_) (fun hc5 => ?_)
    · rw [if_neg (ne_true_of_eq_false hc5)] at h
      simp only [go_sem, seval, hc5]
      refine hZ _ (pp (hJ4 _ true ?_ h))
      refine weak_roots ?_ ?_ <;> repeat' first | exact xn | exact rn | refine xc ?_ ?_ | refine rc ?_ ?_ ?_ | rfl
    rw [if_pos hc5] at h
    obtain ⟨r8, hr6, h⟩ := Option.bind_eq_some_iff.1 h
    simp only [go_sem, seval, hc5, hr6]
    refine hZ _ (pp (hJ4 _ (!r8) ?_ h))
    refine weak_roots ?_ ?_ <;> repeat' first | exact xn | exact rn | refine xc ?_ ?_ | refine rc ?_ ?_ ?_ | rfl
  intro c7 h
  unfold turns_End_J1 at h
  refine Wk_cond_bool rfl (fun hc7 => ?_) (fun hc7 => ?_)
  · rw [if_pos hc7] at h
    refine Wk_seq (Wk_regionZ fun Z hZ => ?_)
    simp only [go_sem, seval, hc7]
    refine hZ _ (pp (Wk_ret (pp ?_)))
    cases h
    simp only [go_sem, seval]
    exact ⟨_, rfl, RokI.h⟩
  rw [if_neg (ne_true_of_eq_false hc7)] at h
  refine Wk_skip (pp ?_)
  unfold turns_End_J2 at h
  refine Wk_seq ?_
  obtain ⟨r9, hr8, h⟩ := Option.bind_eq_some_iff.1 h
  refine Wk_regionZ fun Z hZ => ?_
  simp only [go_sem, seval, hc7, hr8]
  refine hZ _ (pp (Wk_seq (Wk_seq (Wk_regionZ fun Z hZ => ?_))))
  simp only [go_sem, seval]
  refine hZ _ (pp (Wk_cond_ndec rfl (fun hc9 => ?_) (fun hc9 => ?_)))
  · have hc9d := decide_eq_false hc9
    rw [if_neg hc9] at h
    refine Wk_seq (Wk_regionZ fun Z hZ => ?_)
    simp only [go_sem, seval, hc9d]
    refine hZ _ (pp (Wk_ret (pp ?_)))
    cases h
    simp only [go_sem, seval]
    exact ⟨_, rfl, RokI.h⟩
  have hc9d := decide_eq_true hc9
  rw [if_pos hc9] at h
  refine Wk_skip (pp (Wk_seq ?_))
  obtain ⟨r10, hr10, h⟩ := Option.bind_eq_some_iff.1 h
  refine Wk_regionD fun Z hZ => ?_
  simp only [go_sem, seval, hc9d, hr10]
  repeat with_reducible refine and_bar (by kernel_rfl) ?_
  refine hZ _ (by kernel_rfl) (pp (Wk_ret (pp ?_)))
  cases h
  simp only [go_sem, seval]
  exact ⟨_, rfl, RokI.h⟩
def fs_turns_End (N : Nat) : FnS := ⟨[], false, fn1 Actor.decA fun q0 => (turns_End N q0).map fun r => .tup [.agg (Actor.row r.1), .agg (Request.row r.2.1), .val (.int .i64 r.2.2)], false⟩
attribute [go_sem] fs_turns_End
theorem fs_turns_End_ok (N : Nat) : FSOk Try.prog 31 (fs_turns_End N) := ok1 (fun q0 r h => by
  obtain ⟨r', hr, rfl⟩ := Option.map_eq_some_iff.1 h
  exact w_turns_End N q0 r' hr) (Actor.decA_le)


noncomputable def G_law24_awake (N d f : Nat) : Option FnS := glist [(21, 27, fs_turns_New N), (23, 29, fs_turns_Begin N), (29, 35, fs_turns_Suspend N), (35, 33, fs_turns_Admits N), (39, 37, fs_turns_StartCall N), (49, 33, fs_turns_Admits N), (52, 13, fs_turns_Waiting N), (60, 39, fs_turns_Answer N), (65, 41, fs_turns_Resume N), (71, 31, fs_turns_End N)] d f
attribute [go_sem] G_law24_awake
theorem w_law24_awake (N : Nat)  (r : Bool) (h : law24_awake N  = some r) : Con Try.prog 9 [] true [] (.val (.bool r)) := by
  refine fun_ok4 (G := (G_law24_awake N)) Try.func9 rfl (by decide) (by kernel_rfl) (gc 21 (fs_turns_New_ok N) (gc 23 (fs_turns_Begin_ok N) (gc 29 (fs_turns_Suspend_ok N) (gc 35 (fs_turns_Admits_ok N) (gc 39 (fs_turns_StartCall_ok N) (gc 49 (fs_turns_Admits_ok N) (gc 52 (fs_turns_Waiting_ok N) (gc 60 (fs_turns_Answer_ok N) (gc 65 (fs_turns_Resume_ok N) (gc 71 (fs_turns_End_ok N) gn)))))))))) [] mix (Nat.le_of_ble_eq_true rfl) ?_
  simp only [Try.f9]
  unfold law24_awake at h
  refine Wk_seq (Wk_regionZ fun Z hZ => ?_)
  simp only [go_sem, seval]
  refine hZ _ (pp (Wk_seq (Wk_regionZ fun Z hZ => ?_)))
  simp only [go_sem, seval]
  refine hZ _ (pp (Wk_seq (Wk_regionZ fun Z hZ => ?_)))
  simp only [go_sem, seval]
  refine hZ _ (pp (Wk_seq ?_))
  obtain ⟨r1, hr1, h⟩ := Option.bind_eq_some_iff.1 h
  obtain ⟨r2, hr2, h⟩ := Option.bind_eq_some_iff.1 h
  refine Wk_regionH fun Y hY => ?_
  refine RX2_s rfl rfl fun Z hZ => ?_
  simp only [go_sem, seval]
  repeat with_reducible refine and_bar (by kernel_rfl) ?_
  refine hZ _ ?_
  refine RX2_s rfl rfl fun Z hZ => ?_
  simp only [go_sem, seval, hr1]
  refine hZ _ ?_
  refine RX2_s rfl rfl fun Z hZ => ?_
  simp only [go_sem, seval]
  refine hZ _ ?_
  refine RX2_s rfl rfl fun Z hZ => ?_
  simp only [go_sem, seval, hr2]
  refine hZ _ ?_
  refine RX2_s rfl rfl fun Z hZ => ?_
  simp only [go_sem, seval]
  refine hZ _ ?_
  refine RX2_s rfl rfl fun Z hZ => ?_
  simp only [go_sem, seval]
  refine hZ _ ?_
  refine RX2_s rfl rfl fun Z hZ => ?_
  simp only [go_sem, seval]
  refine hZ _ ?_
  refine RX2_s rfl rfl fun Z hZ => ?_
  simp only [go_sem, seval]
  refine hZ _ ?_
  refine RX2_w fun Z hZ => ?_
  simp only [go_sem, seval]
  refine hZ _ ?_
  refine RX2_s rfl rfl fun Z hZ => ?_
  simp only [go_sem, seval]
  refine hZ _ ?_
  refine RX2_end (by kernel_rfl) (hY _ (pp (Wk_seq ?_)))
  obtain ⟨r3, hr3, h⟩ := Option.bind_eq_some_iff.1 h
  refine Wk_regionZ fun Z hZ => ?_
  simp only [go_sem, seval, hr3]
  refine hZ _ (pp (Wk_seq ?_))
  obtain ⟨r4, hr4, h⟩ := Option.bind_eq_some_iff.1 h
  refine Wk_regionZ fun Z hZ => ?_
  simp only [go_sem, seval, hr4]
  refine hZ _ (pp (Wk_seq ?_))
  obtain ⟨r5, hr5, h⟩ := Option.bind_eq_some_iff.1 h
  refine Wk_regionZ fun Z hZ => ?_
  simp only [go_sem, seval, hr5]
  refine hZ _ (pp (Wk_seq ?_))
  obtain ⟨r6, hr6, h⟩ := Option.bind_eq_some_iff.1 h
  refine Wk_regionZ fun Z hZ => ?_
  simp only [go_sem, seval, hr6]
  refine hZ _ (pp (Wk_seq ?_))
  obtain ⟨r7, hr7, h⟩ := Option.bind_eq_some_iff.1 h
  refine Wk_regionZ fun Z hZ => ?_
  simp only [go_sem, seval, hr7]
  refine hZ _ (pp (Wk_seq ?_))
  obtain ⟨r8, hr8, h⟩ := Option.bind_eq_some_iff.1 h
  refine Wk_regionZ fun Z hZ => ?_
  simp only [go_sem, seval, hr8]
  refine hZ _ (pp (Wk_seq ?_))
  obtain ⟨r9, hr9, h⟩ := Option.bind_eq_some_iff.1 h
  refine Wk_regionZ fun Z hZ => ?_
  simp only [go_sem, seval, hr9]
  refine hZ _ (pp (Wk_seq ?_))
  obtain ⟨r10, hr10, h⟩ := Option.bind_eq_some_iff.1 h
  refine Wk_regionZ fun Z hZ => ?_
  simp only [go_sem, seval, hr10]
  refine hZ _ (pp (Wk_seq (Wk_regionZ fun Z hZ => ?_)))
  simp only [go_sem, seval]
  refine sw (RX_guard_dec rfl) (fun hc11 => ?_) (fun hc11 => ?_)
  · have hc11d := decide_eq_false hc11
    rw [if_neg hc11] at h
    simp only [go_sem, seval, hc11d]
    refine hZ _ (pp (Wk_ret (pp ?_)))
    cases h
    simp only [go_sem, seval]
    exact ⟨_, rfl, RokI.h, PureI.h⟩
  have hc11d := decide_eq_true hc11
  rw [if_pos hc11] at h
  simp only [go_sem, seval, hc11d]
  refine sw (RX_guard_dec rfl) (fun hc12 => ?_) (fun hc12 => ?_)
  · have hc12d := decide_eq_false hc12
    rw [if_neg hc12] at h
    simp only [go_sem, seval, hc12d]
    refine hZ _ (pp (Wk_ret (pp ?_)))
    cases h
    simp only [go_sem, seval]
    exact ⟨_, rfl, RokI.h, PureI.h⟩
  have hc12d := decide_eq_true hc12
  rw [if_pos hc12] at h
  simp only [go_sem, seval, hc12d]
  refine sw (RX_guard_dec rfl) (fun hc13 => ?_) (fun hc13 => ?_)
  · have hc13d := decide_eq_false hc13
    rw [if_neg hc13] at h
    simp only [go_sem, seval, hc13d]
    refine hZ _ (pp (Wk_ret (pp ?_)))
    cases h
    simp only [go_sem, seval]
    exact ⟨_, rfl, RokI.h, PureI.h⟩
  have hc13d := decide_eq_true hc13
  rw [if_pos hc13] at h
  simp only [go_sem, seval, hc13d]
  refine sw (RX_guard_dec rfl) (fun hc14 => ?_) (fun hc14 => ?_)
  · have hc14d := decide_eq_false hc14
    rw [if_neg hc14] at h
    simp only [go_sem, seval, hc14d]
    refine hZ _ (pp (Wk_ret (pp ?_)))
    cases h
    simp only [go_sem, seval]
    exact ⟨_, rfl, RokI.h, PureI.h⟩
  have hc14d := decide_eq_true hc14
  rw [if_pos hc14] at h
  simp only [go_sem, seval, hc14d]
  refine sw (RX_guard_dec rfl) (fun hc15 => ?_) (fun hc15 => ?_)
  · have hc15d := decide_eq_false hc15
    rw [if_neg hc15] at h
    simp only [go_sem, seval, hc15d]
    refine hZ _ (pp (Wk_ret (pp ?_)))
    cases h
    simp only [go_sem, seval]
    exact ⟨_, rfl, RokI.h, PureI.h⟩
  have hc15d := decide_eq_true hc15
  rw [if_pos hc15] at h
  simp only [go_sem, seval, hc15d]
  refine sw (RX_guard_dec rfl) (fun hc16 => ?_) (fun hc16 => ?_)
  · have hc16d := decide_eq_false hc16
    rw [if_neg hc16] at h
    simp only [go_sem, seval, hc16d]
    refine hZ _ (pp (Wk_ret (pp ?_)))
    cases h
    simp only [go_sem, seval]
    exact ⟨_, rfl, RokI.h, PureI.h⟩
  have hc16d := decide_eq_true hc16
  rw [if_pos hc16] at h
  simp only [go_sem, seval, hc16d]
  refine sw (RX_guard_dec rfl) (fun hc17 => ?_) (fun hc17 => ?_)
  · have hc17d := decide_eq_false hc17
    rw [if_neg hc17] at h
    simp only [go_sem, seval, hc17d]
    refine hZ _ (pp (Wk_ret (pp ?_)))
    cases h
    simp only [go_sem, seval]
    exact ⟨_, rfl, RokI.h, PureI.h⟩
  have hc17d := decide_eq_true hc17
  rw [if_pos hc17] at h
  simp only [go_sem, seval, hc17d]
  refine sw (RX_guard_dec rfl) (fun hc18 => ?_) (fun hc18 => ?_)
  · have hc18d := decide_eq_false hc18
    rw [if_neg hc18] at h
    simp only [go_sem, seval, hc18d]
    refine hZ _ (pp (Wk_ret (pp ?_)))
    cases h
    simp only [go_sem, seval]
    exact ⟨_, rfl, RokI.h, PureI.h⟩
  have hc18d := decide_eq_true hc18
  rw [if_pos hc18] at h
  simp only [go_sem, seval, hc18d]
  refine sw (RX_guard_bool rfl) (fun hc19 => ?_) (fun hc19 => ?_)
  · rw [if_neg (ne_true_of_eq_false hc19)] at h
    simp only [go_sem, seval, hc19]
    refine hZ _ (pp (Wk_ret (pp ?_)))
    cases h
    simp only [go_sem, seval]
    exact ⟨_, rfl, RokI.h, PureI.h⟩
  rw [if_pos hc19] at h
  simp only [go_sem, seval, hc19]
  refine sw (RX_guard_dec rfl) (fun hc20 => ?_) (fun hc20 => ?_)
  · have hc20d := decide_eq_false hc20
    rw [if_neg hc20] at h
    simp only [go_sem, seval, hc20d]
    refine hZ _ (pp (Wk_ret (pp ?_)))
    cases h
    simp only [go_sem, seval]
    exact ⟨_, rfl, RokI.h, PureI.h⟩
  have hc20d := decide_eq_true hc20
  rw [if_pos hc20] at h
  simp only [go_sem, seval, hc20d]
  refine sw (RX_guard_dec rfl) (fun hc21 => ?_) (fun hc21 => ?_)
  · have hc21d := decide_eq_false hc21
    rw [if_neg hc21] at h
    simp only [go_sem, seval, hc21d]
    refine hZ _ (pp (Wk_ret (pp ?_)))
    cases h
    simp only [go_sem, seval]
    exact ⟨_, rfl, RokI.h, PureI.h⟩
  have hc21d := decide_eq_true hc21
  rw [if_pos hc21] at h
  simp only [go_sem, seval, hc21d]
  refine sw (RX_guard_bool rfl) (fun hc22 => ?_) (fun hc22 => ?_)
  · rw [if_neg (ne_true_of_eq_false hc22)] at h
    simp only [go_sem, seval, hc22]
    refine hZ _ (pp (Wk_ret (pp ?_)))
    cases h
    simp only [go_sem, seval]
    exact ⟨_, rfl, RokI.h, PureI.h⟩
  rw [if_pos hc22] at h
  simp only [go_sem, seval, hc22]
  refine RX_guard_dec rfl (fun hc23 => ?_) (fun hc23 => ?_)
  · have hc23d := decide_eq_true hc23
    rw [if_pos hc23] at h
    simp only [go_sem, seval, hc23d]
    refine hZ _ (pp (Wk_ret (pp ?_)))
    cases h
    simp only [go_sem, seval]
    exact ⟨_, rfl, RokI.h, PureI.h⟩
  have hc23d := decide_eq_false hc23
  rw [if_neg hc23] at h
  simp only [go_sem, seval, hc23d]
  refine hZ _ (pp (Wk_ret (pp ?_)))
  cases h
  simp only [go_sem, seval]
  exact ⟨_, rfl, RokI.h, PureI.h⟩
def fs_law24_awake (N : Nat) : FnS := { own := [], pure := true, fn := fun cs => match cs with
  | [] =>  (law24_awake N ).map fun r => .val (.bool r)
  | _ => none }
attribute [go_sem] fs_law24_awake
theorem fs_law24_awake_ok (N : Nat) : FSOk Try.prog 9 (fs_law24_awake N) := by
  refine ⟨fun cs r h => ?_, fun h => by cases h⟩
  simp only [fs_law24_awake] at h
  split at h
  · simp only [Option.map_eq_some_iff] at h
    obtain ⟨r', hr, rfl⟩ := h
    exact ((w_law24_awake N  r' hr).args (LeL.nil))
  · cases h


theorem w_ref14_ValidRef (N : Nat) (a0 : Ref) (r : Bool) (h : ref14_ValidRef N a0 = some r) : Con Try.prog 46 [] true [.agg [.val (.string a0.Type_), .val (.string a0.Key)]] (.val (.bool r)) := by
  refine fun_ok4 (G := (glist [])) Try.func46 rfl (by decide) (by kernel_rfl) gn [] mix (Nat.le_of_ble_eq_true rfl) ?_
  simp only [Try.f46]
  unfold ref14_ValidRef at h
  refine Wk_seq (Wk_regionZ fun Z hZ => ?_)
  simp only [go_sem, seval]
  refine hZ _ (pp (Wk_seq (Wk_regionZ fun Z hZ => ?_)))
  simp only [go_sem, seval]
  refine sw (RX_guard_dec rfl) (fun hc1 => ?_) (fun hc1 => ?_)
  · have hc1d := decide_eq_false hc1
    rw [if_neg hc1] at h
    simp only [go_sem, seval, hc1d]
    refine hZ _ (pp (Wk_ret (pp ?_)))
    cases h
    simp only [go_sem, seval]
    exact ⟨_, rfl, RokI.h, PureI.h⟩
  have hc1d := decide_eq_true hc1
  rw [if_pos hc1] at h
  simp only [go_sem, seval, hc1d]
  refine RX_guard_dec rfl (fun hc2 => ?_) (fun hc2 => ?_)
  · have hc2d := decide_eq_true hc2
    rw [if_pos hc2] at h
    simp only [go_sem, seval, hc2d]
    refine hZ _ (pp (Wk_ret (pp ?_)))
    cases h
    simp only [go_sem, seval]
    exact ⟨_, rfl, RokI.h, PureI.h⟩
  have hc2d := decide_eq_false hc2
  rw [if_neg hc2] at h
  simp only [go_sem, seval, hc2d]
  refine hZ _ (pp (Wk_ret (pp ?_)))
  cases h
  simp only [go_sem, seval]
  exact ⟨_, rfl, RokI.h, PureI.h⟩
def fs_ref14_ValidRef (N : Nat) : FnS := ⟨[], true, fn1 Ref.decA fun q0 => (ref14_ValidRef N q0).map fun r => .val (.bool r), false⟩
attribute [go_sem] fs_ref14_ValidRef
theorem fs_ref14_ValidRef_ok (N : Nat) : FSOk Try.prog 46 (fs_ref14_ValidRef N) := ok1 (fun q0 r h => by
  obtain ⟨r', hr, rfl⟩ := Option.map_eq_some_iff.1 h
  exact w_ref14_ValidRef N q0 r' hr) (Ref.decA_le)


theorem w_ref1_SameInts (N : Nat) (a0 : (List Int)) (a1 : (List Int)) (r : Bool) (h : ref1_SameInts N a0 a1 = some r) : Con Try.prog 48 [] true [.sl false none 1 none (a0.map (rowI .i64)), .sl false none 1 none (a1.map (rowI .i64))] (.val (.bool r)) := by
  refine fun_ok4 (G := (glist [])) Try.func48 rfl (by decide) (by kernel_rfl) gn [] mix (Nat.le_of_ble_eq_true rfl) ?_
  simp only [Try.f48]
  unfold ref1_SameInts at h
  refine Wk_seq (Wk_regionZ fun Z hZ => ?_)
  simp only [go_sem, seval]
  refine hZ _ (pp (Wk_seq (Wk_seq (Wk_regionZ fun Z hZ => ?_))))
  simp only [go_sem, seval]
  refine hZ _ (pp (Wk_cond_ndec rfl (fun hc1 => ?_) (fun hc1 => ?_)))
  · have hc1d := decide_eq_false hc1
    rw [if_neg hc1] at h
    refine Wk_seq (Wk_regionZ fun Z hZ => ?_)
    simp only [go_sem, seval, hc1d]
    refine hZ _ (pp (Wk_ret (pp ?_)))
    cases h
    simp only [go_sem, seval]
    exact ⟨_, rfl, RokI.h, PureI.h⟩
  have hc1d := decide_eq_true hc1
  rw [if_pos hc1] at h
  refine Wk_skip (pp (Wk_seq (Wk_seq (Wk_regionZ fun Z hZ => ?_))))
  simp only [go_sem, seval, hc1d]
  refine hZ _ (pp (Wk_block (Wk_real fun hreal3 => ?_)))
  have hl2 := hreal3.lenT 0 (by decide) (by simp only [go_sem, seval]; rfl)
  rw [List.length_map] at hl2
  refine Wk_range (fun (v3 : Nat) (b : Unit) => ⟨tab 26 (updT (updT (updT deadT 0 (.sl false none 1 none (a0.map (rowI .i64)))) 1 (.sl false none 1 none (a1.map (rowI .i64)))) 5 (.val (.int .i64 ((v3 : Nat) : Int)))), RZ⟩) () h ?_ ?_
  · refine weak_roots ?_ ?_ <;> repeat' first | exact xn | exact rn | refine xc ?_ ?_ | refine rc ?_ ?_ ?_ | rfl
  rintro v3 ⟨⟩ hi4 h -
  rcases (drop_cases a0 v3 hi4).symm with ⟨hi4', _, hd7⟩ | ⟨x6, hi4', hx5, hd7⟩
  · rw [hd7] at h
    simp only [ref1_SameInts_L1] at h
    refine Wk_seq (Wk_seq (Wk_regionZ fun Z hZ => ?_))
    simp only [go_sem, seval, hi4']
    refine hZ _ (pp ?_)
    try simp only [Int.ofNat_lt, hi4', if_true, if_false] at h
    refine Wk_cond_f rfl (Wk_exit (pp (Wk_seq (Wk_regionZ fun Z hZ => ?_))))
    simp only [go_sem, seval]
    refine hZ _ (pp (Wk_ret (pp ?_)))
    cases h
    simp only [go_sem, seval]
    exact ⟨_, rfl, RokI.h, PureI.h⟩
  rw [hd7] at h
  simp only [ref1_SameInts_L1] at h
  have hw6 := wrap_succ hi4' hl2
  refine Wk_seq (Wk_seq (Wk_regionZ fun Z hZ => ?_))
  simp only [go_sem, seval, hi4']
  refine hZ _ (pp ?_)
  try simp only [Int.ofNat_lt, hi4', if_true, if_false] at h
  refine Wk_cond_t rfl (Wk_skip (pp (Wk_seq (Wk_block (Wk_seq ?_)))))
  try rw [gx_nat hx5] at h
  obtain ⟨x1, hb8, hx9, h⟩ := gx_some h
  try simp only [Int.toNat_natCast] at hx9
  try simp only [Int.ofNat_lt, Int.natCast_nonneg, true_and] at hb8
  refine Wk_regionD fun Z hZ => ?_
  simp only [go_sem, seval, hx5, hi4', hb8, hx9]
  refine hZ _ (by kernel_rfl) (pp (Wk_cond_ndec rfl (fun hc10 => ?_) (fun hc10 => ?_)))
  · have hc10d := decide_eq_false hc10
    rw [if_neg hc10] at h
    refine Wk_seq (Wk_regionZ fun Z hZ => ?_)
    simp only [go_sem, seval, hc10d]
    refine hZ _ (pp (Wk_ret (pp ?_)))
    cases h
    simp only [go_sem, seval]
    exact ⟨_, rfl, RokI.h, PureI.h⟩
  have hc10d := decide_eq_true hc10
  rw [if_pos hc10] at h
  refine Wk_skip (pp (Wk_regionZ fun Z hZ => ?_))
  simp only [go_sem, seval, hw6, hc10d]
  refine hZ _ (pp ?_)
  first | refine ⟨(), ?_, h⟩ | refine ⟨hi4', (), ?_, h⟩
  refine weak_roots ?_ ?_ <;> repeat' first | exact xn | exact rn | refine xc ?_ ?_ | refine rc ?_ ?_ ?_ | rfl
def fs_ref1_SameInts (N : Nat) : FnS := ⟨[], true, fn2 (decL 1 (dec1 (decI .i64))) (decL 1 (dec1 (decI .i64))) fun q0 q1 => (ref1_SameInts N q0 q1).map fun r => .val (.bool r), false⟩
attribute [go_sem] fs_ref1_SameInts
theorem fs_ref1_SameInts_ok (N : Nat) : FSOk Try.prog 48 (fs_ref1_SameInts N) := ok2 (fun q0 q1 r h => by
  obtain ⟨r', hr, rfl⟩ := Option.map_eq_some_iff.1 h
  exact w_ref1_SameInts N q0 q1 r' hr) (fun h => decL_le (decI1_le .i64) h) (fun h => decL_le (decI1_le .i64) h)


noncomputable def G_ref24_SameID (N d f : Nat) : Option FnS := glist [(23, 48, fs_ref1_SameInts N)] d f
attribute [go_sem] G_ref24_SameID
theorem w_ref24_SameID (N : Nat) (a0 : Request) (a1 : ByteArray) (a2 : Int) (a3 : (List Int)) (r : Bool) (h : ref24_SameID N a0 a1 a2 a3 = some r) : Con Try.prog 22 [] true [.agg (Request.row a0), .val (.string a1), .val (.int .i64 a2), .sl false none 1 none (a3.map (rowI .i64))] (.val (.bool r)) := by
  refine fun_ok4 (G := (G_ref24_SameID N)) Try.func22 rfl (by decide) (by kernel_rfl) (gc 23 (fs_ref1_SameInts_ok N) gn) [] mix (Nat.le_of_ble_eq_true rfl) ?_
  simp only [Try.f22]
  unfold ref24_SameID at h
  refine Wk_seq (Wk_regionZ fun Z hZ => ?_)
  simp only [go_sem, seval]
  refine hZ _ (pp (Wk_seq (Wk_regionZ fun Z hZ => ?_)))
  simp only [go_sem, seval]
  refine sw (RX_guard_bool rfl) (fun hc1 => ?_) (fun hc1 => ?_)
  · rw [if_neg (ne_true_of_eq_false hc1)] at h
    simp only [go_sem, seval, hc1]
    refine hZ _ (pp (Wk_ret (pp ?_)))
    cases h
    simp only [go_sem, seval]
    exact ⟨_, rfl, RokI.h, PureI.h⟩
  rw [if_pos hc1] at h
  simp only [go_sem, seval, hc1]
  refine RX_guard_dec rfl (fun hc2 => ?_) (fun hc2 => ?_)
  · have hc2d := decide_eq_true hc2
    rw [if_pos hc2] at h
    obtain ⟨r1, hr3, h⟩ := Option.bind_eq_some_iff.1 h
    simp only [go_sem, seval, hc2d, hr3]
    refine hZ _ (pp (Wk_ret (pp ?_)))
    cases h
    simp only [go_sem, seval]
    exact ⟨_, rfl, RokI.h, PureI.h⟩
  have hc2d := decide_eq_false hc2
  rw [if_neg hc2] at h
  simp only [go_sem, seval, hc2d]
  refine hZ _ (pp (Wk_ret (pp ?_)))
  cases h
  simp only [go_sem, seval]
  exact ⟨_, rfl, RokI.h, PureI.h⟩
def fs_ref24_SameID (N : Nat) : FnS := ⟨[], true, fn4 Request.decA decS (decI .i64) (decL 1 (dec1 (decI .i64))) fun q0 q1 q2 q3 => (ref24_SameID N q0 q1 q2 q3).map fun r => .val (.bool r), false⟩
attribute [go_sem] fs_ref24_SameID
theorem fs_ref24_SameID_ok (N : Nat) : FSOk Try.prog 22 (fs_ref24_SameID N) := ok4 (fun q0 q1 q2 q3 r h => by
  obtain ⟨r', hr, rfl⟩ := Option.map_eq_some_iff.1 h
  exact w_ref24_SameID N q0 q1 q2 q3 r' hr) (Request.decA_le) (decS_le) (decI_le) (fun h => decL_le (decI1_le .i64) h)


theorem w_ref24_SameRefs (N : Nat) (a0 : (List Ref)) (a1 : (List Ref)) (r : Bool) (h : ref24_SameRefs N a0 a1 = some r) : Con Try.prog 70 [] true [.sl false none 2 none (a0.map Ref.row), .sl false none 2 none (a1.map Ref.row)] (.val (.bool r)) := by
  refine fun_ok4 (G := (glist [])) Try.func70 rfl (by decide) (by kernel_rfl) gn [] mix (Nat.le_of_ble_eq_true rfl) ?_
  simp only [Try.f70]
  unfold ref24_SameRefs at h
  refine Wk_seq (Wk_regionZ fun Z hZ => ?_)
  simp only [go_sem, seval]
  refine hZ _ (pp (Wk_seq (Wk_seq (Wk_regionZ fun Z hZ => ?_))))
  simp only [go_sem, seval]
  refine hZ _ (pp (Wk_cond_ndec rfl (fun hc1 => ?_) (fun hc1 => ?_)))
  · have hc1d := decide_eq_false hc1
    rw [if_neg hc1] at h
    refine Wk_seq (Wk_regionZ fun Z hZ => ?_)
    simp only [go_sem, seval, hc1d]
    refine hZ _ (pp (Wk_ret (pp ?_)))
    cases h
    simp only [go_sem, seval]
    exact ⟨_, rfl, RokI.h, PureI.h⟩
  have hc1d := decide_eq_true hc1
  rw [if_pos hc1] at h
  refine Wk_skip (pp (Wk_seq (Wk_seq (Wk_regionZ fun Z hZ => ?_))))
  simp only [go_sem, seval, hc1d]
  refine hZ _ (pp (Wk_block (Wk_real fun hreal3 => ?_)))
  have hl2 := hreal3.lenT 0 (by decide) (by simp only [go_sem, seval]; rfl)
  rw [List.length_map] at hl2
  refine Wk_range (fun (v3 : Nat) (b : Unit) => ⟨tab 26 (updT (updT (updT deadT 0 (.sl false none 2 none (a0.map Ref.row))) 1 (.sl false none 2 none (a1.map Ref.row))) 5 (.val (.int .i64 ((v3 : Nat) : Int)))), RZ⟩) () h ?_ ?_
  · refine weak_roots ?_ ?_ <;> repeat' first | exact xn | exact rn | refine xc ?_ ?_ | refine rc ?_ ?_ ?_ | rfl
  rintro v3 ⟨⟩ hi4 h -
  rcases (drop_cases a0 v3 hi4).symm with ⟨hi4', _, hd7⟩ | ⟨x6, hi4', hx5, hd7⟩
  · rw [hd7] at h
    simp only [ref24_SameRefs_L1] at h
    refine Wk_seq (Wk_seq (Wk_regionZ fun Z hZ => ?_))
    simp only [go_sem, seval, hi4']
    refine hZ _ (pp ?_)
    try simp only [Int.ofNat_lt, hi4', if_true, if_false] at h
    refine Wk_cond_f rfl (Wk_exit (pp (Wk_seq (Wk_regionZ fun Z hZ => ?_))))
    simp only [go_sem, seval]
    refine hZ _ (pp (Wk_ret (pp ?_)))
    cases h
    simp only [go_sem, seval]
    exact ⟨_, rfl, RokI.h, PureI.h⟩
  rw [hd7] at h
  simp only [ref24_SameRefs_L1] at h
  have hw6 := wrap_succ hi4' hl2
  refine Wk_seq (Wk_seq (Wk_regionZ fun Z hZ => ?_))
  simp only [go_sem, seval, hi4']
  refine hZ _ (pp ?_)
  try simp only [Int.ofNat_lt, hi4', if_true, if_false] at h
  refine Wk_cond_t rfl (Wk_skip (pp (Wk_seq (Wk_block (Wk_seq ?_)))))
  try rw [gx_nat hx5] at h
  obtain ⟨x1, hb8, hx9, h⟩ := gx_some h
  try simp only [Int.toNat_natCast] at hx9
  try simp only [Int.ofNat_lt, Int.natCast_nonneg, true_and] at hb8
  refine Wk_regionD fun Z hZ => ?_
  simp only [go_sem, seval, hx5, hi4', hb8, hx9]
  refine hZ _ (by kernel_rfl) (pp (Wk_cond_nbool rfl (fun hc10 => ?_) (fun hc10 => ?_)))
  · rw [if_neg (ne_true_of_eq_false hc10)] at h
    refine Wk_seq (Wk_regionZ fun Z hZ => ?_)
    simp only [go_sem, seval, hc10]
    refine hZ _ (pp (Wk_ret (pp ?_)))
    cases h
    simp only [go_sem, seval]
    exact ⟨_, rfl, RokI.h, PureI.h⟩
  rw [if_pos hc10] at h
  refine Wk_skip (pp (Wk_regionZ fun Z hZ => ?_))
  simp only [go_sem, seval, hw6, hc10]
  refine hZ _ (pp ?_)
  first | refine ⟨(), ?_, h⟩ | refine ⟨hi4', (), ?_, h⟩
  refine weak_roots ?_ ?_ <;> repeat' first | exact xn | exact rn | refine xc ?_ ?_ | refine rc ?_ ?_ ?_ | rfl
def fs_ref24_SameRefs (N : Nat) : FnS := ⟨[], true, fn2 (decL 2 Ref.dec) (decL 2 Ref.dec) fun q0 q1 => (ref24_SameRefs N q0 q1).map fun r => .val (.bool r), false⟩
attribute [go_sem] fs_ref24_SameRefs
theorem fs_ref24_SameRefs_ok (N : Nat) : FSOk Try.prog 70 (fs_ref24_SameRefs N) := ok2 (fun q0 q1 r h => by
  obtain ⟨r', hr, rfl⟩ := Option.map_eq_some_iff.1 h
  exact w_ref24_SameRefs N q0 q1 r' hr) (fun h => decL_le Ref.dec_le h) (fun h => decL_le Ref.dec_le h)


theorem w_ref1_SameStrings (N : Nat) (a0 : (List ByteArray)) (a1 : (List ByteArray)) (r : Bool) (h : ref1_SameStrings N a0 a1 = some r) : Con Try.prog 92 [] true [.sl false none 1 none (a0.map rowS), .sl false none 1 none (a1.map rowS)] (.val (.bool r)) := by
  refine fun_ok4 (G := (glist [])) Try.func92 rfl (by decide) (by kernel_rfl) gn [] mix (Nat.le_of_ble_eq_true rfl) ?_
  simp only [Try.f92]
  unfold ref1_SameStrings at h
  refine Wk_seq (Wk_regionZ fun Z hZ => ?_)
  simp only [go_sem, seval]
  refine hZ _ (pp (Wk_seq (Wk_seq (Wk_regionZ fun Z hZ => ?_))))
  simp only [go_sem, seval]
  refine hZ _ (pp (Wk_cond_ndec rfl (fun hc1 => ?_) (fun hc1 => ?_)))
  · have hc1d := decide_eq_false hc1
    rw [if_neg hc1] at h
    refine Wk_seq (Wk_regionZ fun Z hZ => ?_)
    simp only [go_sem, seval, hc1d]
    refine hZ _ (pp (Wk_ret (pp ?_)))
    cases h
    simp only [go_sem, seval]
    exact ⟨_, rfl, RokI.h, PureI.h⟩
  have hc1d := decide_eq_true hc1
  rw [if_pos hc1] at h
  refine Wk_skip (pp (Wk_seq (Wk_seq (Wk_regionZ fun Z hZ => ?_))))
  simp only [go_sem, seval, hc1d]
  refine hZ _ (pp (Wk_block (Wk_real fun hreal3 => ?_)))
  have hl2 := hreal3.lenT 0 (by decide) (by simp only [go_sem, seval]; rfl)
  rw [List.length_map] at hl2
  refine Wk_range (fun (v3 : Nat) (b : Unit) => ⟨tab 26 (updT (updT (updT deadT 0 (.sl false none 1 none (a0.map rowS))) 1 (.sl false none 1 none (a1.map rowS))) 5 (.val (.int .i64 ((v3 : Nat) : Int)))), RZ⟩) () h ?_ ?_
  · refine weak_roots ?_ ?_ <;> repeat' first | exact xn | exact rn | refine xc ?_ ?_ | refine rc ?_ ?_ ?_ | rfl
  rintro v3 ⟨⟩ hi4 h -
  rcases (drop_cases a0 v3 hi4).symm with ⟨hi4', _, hd7⟩ | ⟨x6, hi4', hx5, hd7⟩
  · rw [hd7] at h
    simp only [ref1_SameStrings_L1] at h
    refine Wk_seq (Wk_seq (Wk_regionZ fun Z hZ => ?_))
    simp only [go_sem, seval, hi4']
    refine hZ _ (pp ?_)
    try simp only [Int.ofNat_lt, hi4', if_true, if_false] at h
    refine Wk_cond_f rfl (Wk_exit (pp (Wk_seq (Wk_regionZ fun Z hZ => ?_))))
    simp only [go_sem, seval]
    refine hZ _ (pp (Wk_ret (pp ?_)))
    cases h
    simp only [go_sem, seval]
    exact ⟨_, rfl, RokI.h, PureI.h⟩
  rw [hd7] at h
  simp only [ref1_SameStrings_L1] at h
  have hw6 := wrap_succ hi4' hl2
  refine Wk_seq (Wk_seq (Wk_regionZ fun Z hZ => ?_))
  simp only [go_sem, seval, hi4']
  refine hZ _ (pp ?_)
  try simp only [Int.ofNat_lt, hi4', if_true, if_false] at h
  refine Wk_cond_t rfl (Wk_skip (pp (Wk_seq (Wk_block (Wk_seq ?_)))))
  try rw [gx_nat hx5] at h
  obtain ⟨x1, hb8, hx9, h⟩ := gx_some h
  try simp only [Int.toNat_natCast] at hx9
  try simp only [Int.ofNat_lt, Int.natCast_nonneg, true_and] at hb8
  refine Wk_regionD fun Z hZ => ?_
  simp only [go_sem, seval, hx5, hi4', hb8, hx9]
  refine hZ _ (by kernel_rfl) (pp (Wk_cond_nbool rfl (fun hc10 => ?_) (fun hc10 => ?_)))
  · rw [if_neg (ne_true_of_eq_false hc10)] at h
    refine Wk_seq (Wk_regionZ fun Z hZ => ?_)
    simp only [go_sem, seval, hc10]
    refine hZ _ (pp (Wk_ret (pp ?_)))
    cases h
    simp only [go_sem, seval]
    exact ⟨_, rfl, RokI.h, PureI.h⟩
  rw [if_pos hc10] at h
  refine Wk_skip (pp (Wk_regionZ fun Z hZ => ?_))
  simp only [go_sem, seval, hw6, hc10]
  refine hZ _ (pp ?_)
  first | refine ⟨(), ?_, h⟩ | refine ⟨hi4', (), ?_, h⟩
  refine weak_roots ?_ ?_ <;> repeat' first | exact xn | exact rn | refine xc ?_ ?_ | refine rc ?_ ?_ ?_ | rfl
def fs_ref1_SameStrings (N : Nat) : FnS := ⟨[], true, fn2 (decL 1 (dec1 decS)) (decL 1 (dec1 decS)) fun q0 q1 => (ref1_SameStrings N q0 q1).map fun r => .val (.bool r), false⟩
attribute [go_sem] fs_ref1_SameStrings
theorem fs_ref1_SameStrings_ok (N : Nat) : FSOk Try.prog 92 (fs_ref1_SameStrings N) := ok2 (fun q0 q1 r h => by
  obtain ⟨r', hr, rfl⟩ := Option.map_eq_some_iff.1 h
  exact w_ref1_SameStrings N q0 q1 r' hr) (fun h => decL_le decS1_le h) (fun h => decL_le decS1_le h)


noncomputable def G_ref1_SameValue (N d f : Nat) : Option FnS := glist [(29, 48, fs_ref1_SameInts N), (36, 92, fs_ref1_SameStrings N)] d f
attribute [go_sem] G_ref1_SameValue
theorem w_ref1_SameValue (N : Nat) (a0 : Value) (a1 : Value) (r : Bool) (h : ref1_SameValue N a0 a1 = some r) : Con Try.prog 71 [] true [.agg (Value.row a0), .agg (Value.row a1)] (.val (.bool r)) := by
  refine fun_ok4 (G := (G_ref1_SameValue N)) Try.func71 rfl (by decide) (by kernel_rfl) (gc 29 (fs_ref1_SameInts_ok N) (gc 36 (fs_ref1_SameStrings_ok N) gn)) [] mix (Nat.le_of_ble_eq_true rfl) ?_
  simp only [Try.f71]
  unfold ref1_SameValue at h
  refine Wk_seq (Wk_regionZ fun Z hZ => ?_)
  simp only [go_sem, seval]
  refine hZ _ (pp (Wk_seq (Wk_regionZ fun Z hZ => ?_)))
  simp only [go_sem, seval]
  refine sw (RX_guard_dec rfl) (fun hc1 => ?_) (fun hc1 => ?_)
  · have hc1d := decide_eq_false hc1
    rw [if_neg hc1] at h
    simp only [go_sem, seval, hc1d]
    refine hZ _ (pp (Wk_ret (pp ?_)))
    cases h
    simp only [go_sem, seval]
    exact ⟨_, rfl, RokI.h, PureI.h⟩
  have hc1d := decide_eq_true hc1
  rw [if_pos hc1] at h
  simp only [go_sem, seval, hc1d]
  refine sw (RX_guard_dec rfl) (fun hc2 => ?_) (fun hc2 => ?_)
  · have hc2d := decide_eq_false hc2
    rw [if_neg hc2] at h
    simp only [go_sem, seval, hc2d]
    refine hZ _ (pp (Wk_ret (pp ?_)))
    cases h
    simp only [go_sem, seval]
    exact ⟨_, rfl, RokI.h, PureI.h⟩
  have hc2d := decide_eq_true hc2
  rw [if_pos hc2] at h
  simp only [go_sem, seval, hc2d]
  refine sw (RX_guard_bool rfl) (fun hc3 => ?_) (fun hc3 => ?_)
  · rw [if_neg (ne_true_of_eq_false hc3)] at h
    simp only [go_sem, seval, hc3]
    refine hZ _ (pp (Wk_ret (pp ?_)))
    cases h
    simp only [go_sem, seval]
    exact ⟨_, rfl, RokI.h, PureI.h⟩
  rw [if_pos hc3] at h
  obtain ⟨r1, hr4, h⟩ := Option.bind_eq_some_iff.1 h
  simp only [go_sem, seval, hc3, hr4]
  refine RX_guard_bool rfl (fun hc5 => ?_) (fun hc5 => ?_)
  · rw [if_pos hc5] at h
    obtain ⟨r2, hr6, h⟩ := Option.bind_eq_some_iff.1 h
    simp only [go_sem, seval, hc5, hr6]
    refine hZ _ (pp (Wk_ret (pp ?_)))
    cases h
    simp only [go_sem, seval]
    exact ⟨_, rfl, RokI.h, PureI.h⟩
  rw [if_neg (ne_true_of_eq_false hc5)] at h
  simp only [go_sem, seval, hc5]
  refine hZ _ (pp (Wk_ret (pp ?_)))
  cases h
  simp only [go_sem, seval]
  exact ⟨_, rfl, RokI.h, PureI.h⟩
def fs_ref1_SameValue (N : Nat) : FnS := ⟨[], true, fn2 Value.decA Value.decA fun q0 q1 => (ref1_SameValue N q0 q1).map fun r => .val (.bool r), false⟩
attribute [go_sem] fs_ref1_SameValue
theorem fs_ref1_SameValue_ok (N : Nat) : FSOk Try.prog 71 (fs_ref1_SameValue N) := ok2 (fun q0 q1 r h => by
  obtain ⟨r', hr, rfl⟩ := Option.map_eq_some_iff.1 h
  exact w_ref1_SameValue N q0 q1 r' hr) (Value.decA_le) (Value.decA_le)


noncomputable def G_ref24_SameRequest (N d f : Nat) : Option FnS := glist [(13, 22, fs_ref24_SameID N), (43, 70, fs_ref24_SameRefs N), (70, 71, fs_ref1_SameValue N)] d f
attribute [go_sem] G_ref24_SameRequest
theorem w_ref24_SameRequest (N : Nat) (a0 : Request) (a1 : Request) (r : Bool) (h : ref24_SameRequest N a0 a1 = some r) : Con Try.prog 25 [] true [.agg (Request.row a0), .agg (Request.row a1)] (.val (.bool r)) := by
  refine fun_ok4 (G := (G_ref24_SameRequest N)) Try.func25 rfl (by decide) (by kernel_rfl) (gc 13 (fs_ref24_SameID_ok N) (gc 43 (fs_ref24_SameRefs_ok N) (gc 70 (fs_ref1_SameValue_ok N) gn))) [] mix (Nat.le_of_ble_eq_true rfl) ?_
  simp only [Try.f25]
  unfold ref24_SameRequest at h
  refine Wk_seq (Wk_regionZ fun Z hZ => ?_)
  simp only [go_sem, seval]
  refine hZ _ (pp (Wk_seq ?_))
  apply Wk_join1 (fun (c7 : Bool) => ⟨tab 72 (updT (updT (updT deadT 2 (.pref 2 [] 0 0)) 3 (.pref 3 [] 0 0)) 52 (.val (.bool c7))), (upd (upd RZ 2 (.sl true none 9 (some 1) [Request.row a0])) 3 (.sl true none 9 (some 1) [Request.row a1]))⟩)
  · intro hJ1
    obtain ⟨r8, hr2, h⟩ := Option.bind_eq_some_iff.1 h
    refine Wk_regionZ fun Z hZ => ?_
    simp only [go_sem, seval, hr2]
    refine RX_guard_nbool rfl (fun hc3 => ?_) (fun hc3 => ?_)
    · rw [if_neg (ne_true_of_eq_false hc3)] at h
      simp only [go_sem, seval, hc3]
      refine hZ _ (pp (hJ1 _ true ?_ h))
      refine weak_roots ?_ ?_ <;> repeat' first | exact xn | exact rn | refine xc ?_ ?_ | refine rc ?_ ?_ ?_ | rfl
    rw [if_pos hc3] at h
    simp only [go_sem, seval, hc3]
    refine RX_guard_nbool rfl (fun hc4 => ?_) (fun hc4 => ?_)
    · rw [if_neg (ne_true_of_eq_false hc4)] at h
      simp only [go_sem, seval, hc4]
      refine hZ _ (pp (hJ1 _ true ?_ h))
      refine weak_roots ?_ ?_ <;> repeat' first | exact xn | exact rn | refine xc ?_ ?_ | refine rc ?_ ?_ ?_ | rfl
    rw [if_pos hc4] at h
    simp only [go_sem, seval, hc4]
    refine RX_guard_nbool rfl (fun hc5 => ?_) (fun hc5 => ?_)
    · rw [if_neg (ne_true_of_eq_false hc5)] at h
      simp only [go_sem, seval, hc5]
      refine hZ _ (pp (hJ1 _ true ?_ h))
      refine weak_roots ?_ ?_ <;> repeat' first | exact xn | exact rn | refine xc ?_ ?_ | refine rc ?_ ?_ ?_ | rfl
    rw [if_pos hc5] at h
    simp only [go_sem, seval, hc5]
    refine RX_guard_ndec rfl (fun hc6 => ?_) (fun hc6 => ?_)
    · have hc6d := decide_eq_false hc6
      rw [if_neg hc6] at h
      simp only [go_sem, seval, hc6d]
      refine hZ _ (pp (hJ1 _ true ?_ h))
      refine weak_roots ?_ ?_ <;> repeat' first | exact xn | exact rn | refine xc ?_ ?_ | refine rc ?_ ?_ ?_ | rfl
    have hc6d := decide_eq_true hc6
    rw [if_pos hc6] at h
    obtain ⟨r9, hr7, h⟩ := Option.bind_eq_some_iff.1 h
    simp only [go_sem, seval, hc6d, hr7]
    refine RX_guard_nbool rfl (fun hc8 => ?_) (fun hc8 => ?_)
    · rw [if_neg (ne_true_of_eq_false hc8)] at h
      simp only [go_sem, seval, hc8]
      refine hZ _ (pp (hJ1 _ true ?_ h))
      refine weak_roots ?_ ?_ <;> repeat' first | exact xn | exact rn | refine xc ?_ ?_ | refine rc ?_ ?_ ?_ | rfl
    rw [if_pos hc8] at h
    simp only [go_sem, seval, hc8]
    refine hZ _ (pp (hJ1 _ (!decide (a0.Txn = a1.Txn)) ?_ h))
    refine weak_roots ?_ ?_ <;> repeat' first | exact xn | exact rn | refine xc ?_ ?_ | refine rc ?_ ?_ ?_ | rfl
  intro c7 h
  unfold ref24_SameRequest_J1 at h
  refine Wk_cond_bool rfl (fun hc9 => ?_) (fun hc9 => ?_)
  · rw [if_pos hc9] at h
    refine Wk_seq (Wk_regionZ fun Z hZ => ?_)
    simp only [go_sem, seval, hc9]
    refine hZ _ (pp (Wk_ret (pp ?_)))
    cases h
    simp only [go_sem, seval]
    exact ⟨_, rfl, RokI.h, PureI.h⟩
  rw [if_neg (ne_true_of_eq_false hc9)] at h
  refine Wk_skip (pp ?_)
  unfold ref24_SameRequest_J2 at h
  refine Wk_seq (Wk_seq (Wk_regionZ fun Z hZ => ?_))
  simp only [go_sem, seval, hc9]
  refine hZ _ (pp (Wk_block (Wk_real fun hreal11 => ?_)))
  have hl10 := hreal11.cell 2 6 (by simp only [go_sem, seval]; rfl) rfl
  rw [List.length_map] at hl10
  refine Wk_range (fun (v7 : Nat) (b : Unit) => ⟨tab 72 (updT (updT (updT deadT 2 (.pref 2 [] 0 0)) 3 (.pref 3 [] 0 0)) 5 (.val (.int .i64 ((v7 : Nat) : Int)))), (upd (upd RZ 2 (.sl true none 9 (some 1) [Request.row a0])) 3 (.sl true none 9 (some 1) [Request.row a1]))⟩) () h ?_ ?_
  · refine weak_roots ?_ ?_ <;> repeat' first | exact xn | exact rn | refine xc ?_ ?_ | refine rc ?_ ?_ ?_ | rfl
  rintro v7 ⟨⟩ hi12 h -
  rcases (drop_cases a0.Args v7 hi12).symm with ⟨hi12', _, hd15⟩ | ⟨x10, hi12', hx13, hd15⟩
  · rw [hd15] at h
    simp only [ref24_SameRequest_L1] at h
    refine Wk_seq (Wk_seq (Wk_regionZ fun Z hZ => ?_))
    simp only [go_sem, seval, hi12']
    refine hZ _ (pp ?_)
    try simp only [Int.ofNat_lt, hi12', if_true, if_false] at h
    refine Wk_cond_f rfl (Wk_exit (pp (Wk_seq (Wk_regionZ fun Z hZ => ?_))))
    simp only [go_sem, seval]
    refine hZ _ (pp (Wk_ret (pp ?_)))
    cases h
    simp only [go_sem, seval]
    exact ⟨_, rfl, RokI.h, PureI.h⟩
  rw [hd15] at h
  simp only [ref24_SameRequest_L1] at h
  have hw14 := wrap_succ hi12' hl10
  refine Wk_seq (Wk_seq (Wk_regionZ fun Z hZ => ?_))
  simp only [go_sem, seval, hi12']
  refine hZ _ (pp ?_)
  try simp only [Int.ofNat_lt, hi12', if_true, if_false] at h
  refine Wk_cond_t rfl (Wk_skip (pp (Wk_seq (Wk_block (Wk_seq ?_)))))
  try rw [gx_nat hx13] at h
  obtain ⟨x11, hb16, hx17, h⟩ := gx_some h
  try simp only [Int.toNat_natCast] at hx17
  try simp only [Int.ofNat_lt, Int.natCast_nonneg, true_and] at hb16
  obtain ⟨r12, hr18, h⟩ := Option.bind_eq_some_iff.1 h
  refine Wk_regionD fun Z hZ => ?_
  simp only [go_sem, seval, hx13, hi12', hb16, hx17, hr18]
  repeat with_reducible refine and_bar (by kernel_rfl) ?_
  refine hZ _ (by kernel_rfl) (pp (Wk_cond_nbool rfl (fun hc19 => ?_) (fun hc19 => ?_)))
  · rw [if_neg (ne_true_of_eq_false hc19)] at h
    refine Wk_seq (Wk_regionZ fun Z hZ => ?_)
    simp only [go_sem, seval, hc19]
    refine hZ _ (pp (Wk_ret (pp ?_)))
    cases h
    simp only [go_sem, seval]
    exact ⟨_, rfl, RokI.h, PureI.h⟩
  rw [if_pos hc19] at h
  refine Wk_skip (pp (Wk_regionZ fun Z hZ => ?_))
  simp only [go_sem, seval, hw14, hc19]
  refine hZ _ (pp ?_)
  first | refine ⟨(), ?_, h⟩ | refine ⟨hi12', (), ?_, h⟩
  refine weak_roots ?_ ?_ <;> repeat' first | exact xn | exact rn | refine xc ?_ ?_ | refine rc ?_ ?_ ?_ | rfl
def fs_ref24_SameRequest (N : Nat) : FnS := ⟨[], true, fn2 Request.decA Request.decA fun q0 q1 => (ref24_SameRequest N q0 q1).map fun r => .val (.bool r), false⟩
attribute [go_sem] fs_ref24_SameRequest
theorem fs_ref24_SameRequest_ok (N : Nat) : FSOk Try.prog 25 (fs_ref24_SameRequest N) := ok2 (fun q0 q1 r h => by
  obtain ⟨r', hr, rfl⟩ := Option.map_eq_some_iff.1 h
  exact w_ref24_SameRequest N q0 q1 r' hr) (Request.decA_le) (Request.decA_le)

end Go.Proofs.Ytmgpaicldmgckaa
