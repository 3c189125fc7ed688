/- Walks: each function computes its model. No condition. -/
import Derived.Test.YthgcdhclommkcaaB
import Derived.Test.YthgcdhclommkcaaWA
/- Each Go function computes its model: proofs laid by a program of ours. -/
set_option maxHeartbeats 40000000
set_option synthInstance.maxHeartbeats 2000000
set_option synthInstance.maxSize 4000
set_option linter.unusedSimpArgs false
set_option linter.unusedVariables false
set_option maxRecDepth 100000
namespace Go.Proofs.Ythgcdhclommkcaa
open Go Go.Proofs Go.Abs
theorem w_ref1_SameStrings (N : Nat) (a0 : (List ByteArray)) (a1 : (List ByteArray)) (r : Bool) (h : ref1_SameStrings N a0 a1 = some r) : Con Try.prog 71 [] true [.sl false none 1 none (a0.map rowS), .sl false none 1 none (a1.map rowS)] (.val (.bool r)) := by
  refine fun_ok4 (G := (glist [])) Try.func71 rfl (by decide) (by kernel_rfl) gn [] mix (Nat.le_of_ble_eq_true rfl) ?_
  simp only [Try.f71]
  unfold ref1_SameStrings at h
  refine Wk_seq (Wk_regionZ fun Z hZ => ?_)
  simp only [go_sem, seval]
  refine hZ _ (pp (Wk_seq (Wk_seq (Wk_regionZ fun Z hZ => ?_))))
  simp only [go_sem, seval]
  refine hZ _ (pp (Wk_cond_ndec rfl (fun hc1 => ?_) (fun hc1 => ?_)))
  · have hc1d := decide_eq_false hc1
    rw [if_neg hc1] at h
    refine Wk_seq (Wk_regionZ fun Z hZ => ?_)
    simp only [go_sem, seval, hc1d]
    refine hZ _ (pp (Wk_ret (pp ?_)))
    cases h
    simp only [go_sem, seval]
    exact ⟨_, rfl, RokI.h, PureI.h⟩
  have hc1d := decide_eq_true hc1
  rw [if_pos hc1] at h
  refine Wk_skip (pp (Wk_seq (Wk_seq (Wk_regionZ fun Z hZ => ?_))))
  simp only [go_sem, seval, hc1d]
  refine hZ _ (pp (Wk_block (Wk_real fun hreal3 => ?_)))
  have hl2 := hreal3.lenT 0 (by decide) (by simp only [go_sem, seval]; rfl)
  rw [List.length_map] at hl2
  refine Wk_range (fun (v3 : Nat) (b : Unit) => ⟨tab 26 (updT (updT (updT deadT 0 (.sl false none 1 none (a0.map rowS))) 1 (.sl false none 1 none (a1.map rowS))) 5 (.val (.int .i64 ((v3 : Nat) : Int)))), RZ⟩) () h ?_ ?_
  · refine weak_roots ?_ ?_ <;> repeat' first | exact xn | exact rn | refine xc ?_ ?_ | refine rc ?_ ?_ ?_ | rfl
  rintro v3 ⟨⟩ hi4 h -
  rcases (drop_cases a0 v3 hi4).symm with ⟨hi4', _, hd7⟩ | ⟨x6, hi4', hx5, hd7⟩
  · rw [hd7] at h
    simp only [ref1_SameStrings_L1] at h
    refine Wk_seq (Wk_seq (Wk_regionZ fun Z hZ => ?_))
    simp only [go_sem, seval, hi4']
    refine hZ _ (pp ?_)
    try simp only [Int.ofNat_lt, hi4', if_true, if_false] at h
    refine Wk_cond_f rfl (Wk_exit (pp (Wk_seq (Wk_regionZ fun Z hZ => ?_))))
    simp only [go_sem, seval]
    refine hZ _ (pp (Wk_ret (pp ?_)))
    cases h
    simp only [go_sem, seval]
    exact ⟨_, rfl, RokI.h, PureI.h⟩
  rw [hd7] at h
  simp only [ref1_SameStrings_L1] at h
  have hw6 := wrap_succ hi4' hl2
  refine Wk_seq (Wk_seq (Wk_regionZ fun Z hZ => ?_))
  simp only [go_sem, seval, hi4']
  refine hZ _ (pp ?_)
  try simp only [Int.ofNat_lt, hi4', if_true, if_false] at h
  refine Wk_cond_t rfl (Wk_skip (pp (Wk_seq (Wk_block (Wk_seq ?_)))))
  try rw [gx_nat hx5] at h
  obtain ⟨x1, hb8, hx9, h⟩ := gx_some h
  try simp only [Int.toNat_natCast] at hx9
  try simp only [Int.ofNat_lt, Int.natCast_nonneg, true_and] at hb8
  refine Wk_regionD fun Z hZ => ?_
  simp only [go_sem, seval, hx5, hi4', hb8, hx9]
  refine hZ _ (by kernel_rfl) (pp (Wk_cond_nbool rfl (fun hc10 => ?_) (fun hc10 => ?_)))
  · rw [if_neg (ne_true_of_eq_false hc10)] at h
    refine Wk_seq (Wk_regionZ fun Z hZ => ?_)
    simp only [go_sem, seval, hc10]
    refine hZ _ (pp (Wk_ret (pp ?_)))
    cases h
    simp only [go_sem, seval]
    exact ⟨_, rfl, RokI.h, PureI.h⟩
  rw [if_pos hc10] at h
  refine Wk_skip (pp (Wk_regionZ fun Z hZ => ?_))
  simp only [go_sem, seval, hw6, hc10]
  refine hZ _ (pp ?_)
  first | refine ⟨(), ?_, h⟩ | refine ⟨hi4', (), ?_, h⟩
  refine weak_roots ?_ ?_ <;> repeat' first | exact xn | exact rn | refine xc ?_ ?_ | refine rc ?_ ?_ ?_ | rfl
def fs_ref1_SameStrings (N : Nat) : FnS := ⟨[], true, fn2 (decL 1 (dec1 decS)) (decL 1 (dec1 decS)) fun q0 q1 => (ref1_SameStrings N q0 q1).map fun r => .val (.bool r), false⟩
attribute [go_sem] fs_ref1_SameStrings
theorem fs_ref1_SameStrings_ok (N : Nat) : FSOk Try.prog 71 (fs_ref1_SameStrings N) := ok2 (fun q0 q1 r h => by
  obtain ⟨r', hr, rfl⟩ := Option.map_eq_some_iff.1 h
  exact w_ref1_SameStrings N q0 q1 r' hr) (fun h => decL_le decS1_le h) (fun h => decL_le decS1_le h)


noncomputable def G_ref1_SameValue (N d f : Nat) : Option FnS := glist [(29, 70, fs_ref1_SameInts N), (36, 71, fs_ref1_SameStrings N)] d f
attribute [go_sem] G_ref1_SameValue
theorem w_ref1_SameValue (N : Nat) (a0 : Value) (a1 : Value) (r : Bool) (h : ref1_SameValue N a0 a1 = some r) : Con Try.prog 68 [] true [.agg (Value.row a0), .agg (Value.row a1)] (.val (.bool r)) := by
  refine fun_ok4 (G := (G_ref1_SameValue N)) Try.func68 rfl (by decide) (by kernel_rfl) (gc 29 (fs_ref1_SameInts_ok N) (gc 36 (fs_ref1_SameStrings_ok N) gn)) [] mix (Nat.le_of_ble_eq_true rfl) ?_
  simp only [Try.f68]
  unfold ref1_SameValue at h
  refine Wk_seq (Wk_regionZ fun Z hZ => ?_)
  simp only [go_sem, seval]
  refine hZ _ (pp (Wk_seq (Wk_regionZ fun Z hZ => ?_)))
  simp only [go_sem, seval]
  refine sw (RX_guard_dec rfl) (fun hc1 => ?_) (fun hc1 => ?_)
  · have hc1d := decide_eq_false hc1
    rw [if_neg hc1] at h
    simp only [go_sem, seval, hc1d]
    refine hZ _ (pp (Wk_ret (pp ?_)))
    cases h
    simp only [go_sem, seval]
    exact ⟨_, rfl, RokI.h, PureI.h⟩
  have hc1d := decide_eq_true hc1
  rw [if_pos hc1] at h
  simp only [go_sem, seval, hc1d]
  refine sw (RX_guard_dec rfl) (fun hc2 => ?_) (fun hc2 => ?_)
  · have hc2d := decide_eq_false hc2
    rw [if_neg hc2] at h
    simp only [go_sem, seval, hc2d]
    refine hZ _ (pp (Wk_ret (pp ?_)))
    cases h
    simp only [go_sem, seval]
    exact ⟨_, rfl, RokI.h, PureI.h⟩
  have hc2d := decide_eq_true hc2
  rw [if_pos hc2] at h
  simp only [go_sem, seval, hc2d]
  refine sw (RX_guard_bool rfl) (fun hc3 => ?_) (fun hc3 => ?_)
  · rw [if_neg (ne_true_of_eq_false hc3)] at h
    simp only [go_sem, seval, hc3]
    refine hZ _ (pp (Wk_ret (pp ?_)))
    cases h
    simp only [go_sem, seval]
    exact ⟨_, rfl, RokI.h, PureI.h⟩
  rw [if_pos hc3] at h
  obtain ⟨r1, hr4, h⟩ := Option.bind_eq_some_iff.1 h
  simp only [go_sem, seval, hc3, hr4]
  refine RX_guard_bool rfl (fun hc5 => ?_) (fun hc5 => ?_)
  · rw [if_pos hc5] at h
    obtain ⟨r2, hr6, h⟩ := Option.bind_eq_some_iff.1 h
    simp only [go_sem, seval, hc5, hr6]
    refine hZ _ (pp (Wk_ret (pp ?_)))
    cases h
    simp only [go_sem, seval]
    exact ⟨_, rfl, RokI.h, PureI.h⟩
  rw [if_neg (ne_true_of_eq_false hc5)] at h
  simp only [go_sem, seval, hc5]
  refine hZ _ (pp (Wk_ret (pp ?_)))
  cases h
  simp only [go_sem, seval]
  exact ⟨_, rfl, RokI.h, PureI.h⟩
def fs_ref1_SameValue (N : Nat) : FnS := ⟨[], true, fn2 Value.decA Value.decA fun q0 q1 => (ref1_SameValue N q0 q1).map fun r => .val (.bool r), false⟩
attribute [go_sem] fs_ref1_SameValue
theorem fs_ref1_SameValue_ok (N : Nat) : FSOk Try.prog 68 (fs_ref1_SameValue N) := ok2 (fun q0 q1 r h => by
  obtain ⟨r', hr, rfl⟩ := Option.map_eq_some_iff.1 h
  exact w_ref1_SameValue N q0 q1 r' hr) (Value.decA_le) (Value.decA_le)


noncomputable def G_ref32_SameValues (N d f : Nat) : Option FnS := glist [(25, 68, fs_ref1_SameValue N)] d f
attribute [go_sem] G_ref32_SameValues
theorem w_ref32_SameValues (N : Nat) (a0 : (List Value)) (a1 : (List Value)) (r : Bool) (h : ref32_SameValues N a0 a1 = some r) : Con Try.prog 59 [] true [.sl false none 5 none (a0.map Value.row), .sl false none 5 none (a1.map Value.row)] (.val (.bool r)) := by
  refine fun_ok4 (G := (G_ref32_SameValues N)) Try.func59 rfl (by decide) (by kernel_rfl) (gc 25 (fs_ref1_SameValue_ok N) gn) [] mix (Nat.le_of_ble_eq_true rfl) ?_
  simp only [Try.f59]
  unfold ref32_SameValues at h
  refine Wk_seq (Wk_regionZ fun Z hZ => ?_)
  simp only [go_sem, seval]
  refine hZ _ (pp (Wk_seq (Wk_seq (Wk_regionZ fun Z hZ => ?_))))
  simp only [go_sem, seval]
  refine hZ _ (pp (Wk_cond_ndec rfl (fun hc1 => ?_) (fun hc1 => ?_)))
  · have hc1d := decide_eq_false hc1
    rw [if_neg hc1] at h
    refine Wk_seq (Wk_regionZ fun Z hZ => ?_)
    simp only [go_sem, seval, hc1d]
    refine hZ _ (pp (Wk_ret (pp ?_)))
    cases h
    simp only [go_sem, seval]
    exact ⟨_, rfl, RokI.h, PureI.h⟩
  have hc1d := decide_eq_true hc1
  rw [if_pos hc1] at h
  refine Wk_skip (pp (Wk_seq (Wk_seq (Wk_regionZ fun Z hZ => ?_))))
  simp only [go_sem, seval, hc1d]
  refine hZ _ (pp (Wk_block (Wk_real fun hreal3 => ?_)))
  have hl2 := hreal3.lenT 0 (by decide) (by simp only [go_sem, seval]; rfl)
  rw [List.length_map] at hl2
  refine Wk_range (fun (v3 : Nat) (b : Unit) => ⟨tab 27 (updT (updT (updT deadT 0 (.sl false none 5 none (a0.map Value.row))) 1 (.sl false none 5 none (a1.map Value.row))) 5 (.val (.int .i64 ((v3 : Nat) : Int)))), RZ⟩) () h ?_ ?_
  · refine weak_roots ?_ ?_ <;> repeat' first | exact xn | exact rn | refine xc ?_ ?_ | refine rc ?_ ?_ ?_ | rfl
  rintro v3 ⟨⟩ hi4 h -
  rcases (drop_cases a0 v3 hi4).symm with ⟨hi4', _, hd7⟩ | ⟨x6, hi4', hx5, hd7⟩
  · rw [hd7] at h
    simp only [ref32_SameValues_L1] at h
    refine Wk_seq (Wk_seq (Wk_regionZ fun Z hZ => ?_))
    simp only [go_sem, seval, hi4']
    refine hZ _ (pp ?_)
    try simp only [Int.ofNat_lt, hi4', if_true, if_false] at h
    refine Wk_cond_f rfl (Wk_exit (pp (Wk_seq (Wk_regionZ fun Z hZ => ?_))))
    simp only [go_sem, seval]
    refine hZ _ (pp (Wk_ret (pp ?_)))
    cases h
    simp only [go_sem, seval]
    exact ⟨_, rfl, RokI.h, PureI.h⟩
  rw [hd7] at h
  simp only [ref32_SameValues_L1] at h
  have hw6 := wrap_succ hi4' hl2
  refine Wk_seq (Wk_seq (Wk_regionZ fun Z hZ => ?_))
  simp only [go_sem, seval, hi4']
  refine hZ _ (pp ?_)
  try simp only [Int.ofNat_lt, hi4', if_true, if_false] at h
  refine Wk_cond_t rfl (Wk_skip (pp (Wk_seq (Wk_block (Wk_seq ?_)))))
  try rw [gx_nat hx5] at h
  obtain ⟨x1, hb8, hx9, h⟩ := gx_some h
  try simp only [Int.toNat_natCast] at hx9
  try simp only [Int.ofNat_lt, Int.natCast_nonneg, true_and] at hb8
  obtain ⟨r2, hr10, h⟩ := Option.bind_eq_some_iff.1 h
  refine Wk_regionD fun Z hZ => ?_
  simp only [go_sem, seval, hx5, hi4', hb8, hx9, hr10]
  repeat with_reducible refine and_bar (by kernel_rfl) ?_
  refine hZ _ (by kernel_rfl) (pp (Wk_cond_nbool rfl (fun hc11 => ?_) (fun hc11 => ?_)))
  · rw [if_neg (ne_true_of_eq_false hc11)] at h
    refine Wk_seq (Wk_regionZ fun Z hZ => ?_)
    simp only [go_sem, seval, hc11]
    refine hZ _ (pp (Wk_ret (pp ?_)))
    cases h
    simp only [go_sem, seval]
    exact ⟨_, rfl, RokI.h, PureI.h⟩
  rw [if_pos hc11] at h
  refine Wk_skip (pp (Wk_regionZ fun Z hZ => ?_))
  simp only [go_sem, seval, hw6, hc11]
  refine hZ _ (pp ?_)
  first | refine ⟨(), ?_, h⟩ | refine ⟨hi4', (), ?_, h⟩
  refine weak_roots ?_ ?_ <;> repeat' first | exact xn | exact rn | refine xc ?_ ?_ | refine rc ?_ ?_ ?_ | rfl
def fs_ref32_SameValues (N : Nat) : FnS := ⟨[], true, fn2 (decL 5 Value.dec) (decL 5 Value.dec) fun q0 q1 => (ref32_SameValues N q0 q1).map fun r => .val (.bool r), false⟩
attribute [go_sem] fs_ref32_SameValues
theorem fs_ref32_SameValues_ok (N : Nat) : FSOk Try.prog 59 (fs_ref32_SameValues N) := ok2 (fun q0 q1 r h => by
  obtain ⟨r', hr, rfl⟩ := Option.map_eq_some_iff.1 h
  exact w_ref32_SameValues N q0 q1 r' hr) (fun h => decL_le Value.dec_le h) (fun h => decL_le Value.dec_le h)


noncomputable def G_ref32_SameCall (N d f : Nat) : Option FnS := glist [(22, 59, fs_ref32_SameValues N)] d f
attribute [go_sem] G_ref32_SameCall
theorem w_ref32_SameCall (N : Nat) (a0 : ActorCall) (a1 : ActorCall) (r : Bool) (h : ref32_SameCall N a0 a1 = some r) : Con Try.prog 41 [] true [.agg (ActorCall.row a0), .agg (ActorCall.row a1)] (.val (.bool r)) := by
  refine fun_ok4 (G := (G_ref32_SameCall N)) Try.func41 rfl (by decide) (by kernel_rfl) (gc 22 (fs_ref32_SameValues_ok N) gn) [] mix (Nat.le_of_ble_eq_true rfl) ?_
  simp only [Try.f41]
  unfold ref32_SameCall at h
  refine Wk_seq (Wk_regionZ fun Z hZ => ?_)
  simp only [go_sem, seval]
  refine hZ _ (pp (Wk_seq (Wk_regionZ fun Z hZ => ?_)))
  simp only [go_sem, seval]
  refine sw (RX_guard_bool rfl) (fun hc1 => ?_) (fun hc1 => ?_)
  · rw [if_neg (ne_true_of_eq_false hc1)] at h
    simp only [go_sem, seval, hc1]
    refine hZ _ (pp (Wk_ret (pp ?_)))
    cases h
    simp only [go_sem, seval]
    exact ⟨_, rfl, RokI.h, PureI.h⟩
  rw [if_pos hc1] at h
  simp only [go_sem, seval, hc1]
  refine RX_guard_bool rfl (fun hc2 => ?_) (fun hc2 => ?_)
  · rw [if_pos hc2] at h
    obtain ⟨r1, hr3, h⟩ := Option.bind_eq_some_iff.1 h
    simp only [go_sem, seval, hc2, hr3]
    refine hZ _ (pp (Wk_ret (pp ?_)))
    cases h
    simp only [go_sem, seval]
    exact ⟨_, rfl, RokI.h, PureI.h⟩
  rw [if_neg (ne_true_of_eq_false hc2)] at h
  simp only [go_sem, seval, hc2]
  refine hZ _ (pp (Wk_ret (pp ?_)))
  cases h
  simp only [go_sem, seval]
  exact ⟨_, rfl, RokI.h, PureI.h⟩
def fs_ref32_SameCall (N : Nat) : FnS := ⟨[], true, fn2 ActorCall.decA ActorCall.decA fun q0 q1 => (ref32_SameCall N q0 q1).map fun r => .val (.bool r), false⟩
attribute [go_sem] fs_ref32_SameCall
theorem fs_ref32_SameCall_ok (N : Nat) : FSOk Try.prog 41 (fs_ref32_SameCall N) := ok2 (fun q0 q1 r h => by
  obtain ⟨r', hr, rfl⟩ := Option.map_eq_some_iff.1 h
  exact w_ref32_SameCall N q0 q1 r' hr) (ActorCall.decA_le) (ActorCall.decA_le)


noncomputable def G_ref32_SameCalls (N d f : Nat) : Option FnS := glist [(25, 41, fs_ref32_SameCall N)] d f
attribute [go_sem] G_ref32_SameCalls
theorem w_ref32_SameCalls (N : Nat) (a0 : (List ActorCall)) (a1 : (List ActorCall)) (r : Bool) (h : ref32_SameCalls N a0 a1 = some r) : Con Try.prog 20 [] true [.sl false none 4 none (a0.map ActorCall.row), .sl false none 4 none (a1.map ActorCall.row)] (.val (.bool r)) := by
  refine fun_ok4 (G := (G_ref32_SameCalls N)) Try.func20 rfl (by decide) (by kernel_rfl) (gc 25 (fs_ref32_SameCall_ok N) gn) [] mix (Nat.le_of_ble_eq_true rfl) ?_
  simp only [Try.f20]
  unfold ref32_SameCalls at h
  refine Wk_seq (Wk_regionZ fun Z hZ => ?_)
  simp only [go_sem, seval]
  refine hZ _ (pp (Wk_seq (Wk_seq (Wk_regionZ fun Z hZ => ?_))))
  simp only [go_sem, seval]
  refine hZ _ (pp (Wk_cond_ndec rfl (fun hc1 => ?_) (fun hc1 => ?_)))
  · have hc1d := decide_eq_false hc1
    rw [if_neg hc1] at h
    refine Wk_seq (Wk_regionZ fun Z hZ => ?_)
    simp only [go_sem, seval, hc1d]
    refine hZ _ (pp (Wk_ret (pp ?_)))
    cases h
    simp only [go_sem, seval]
    exact ⟨_, rfl, RokI.h, PureI.h⟩
  have hc1d := decide_eq_true hc1
  rw [if_pos hc1] at h
  refine Wk_skip (pp (Wk_seq (Wk_seq (Wk_regionZ fun Z hZ => ?_))))
  simp only [go_sem, seval, hc1d]
  refine hZ _ (pp (Wk_block (Wk_real fun hreal3 => ?_)))
  have hl2 := hreal3.lenT 0 (by decide) (by simp only [go_sem, seval]; rfl)
  rw [List.length_map] at hl2
  refine Wk_range (fun (v3 : Nat) (b : Unit) => ⟨tab 27 (updT (updT (updT deadT 0 (.sl false none 4 none (a0.map ActorCall.row))) 1 (.sl false none 4 none (a1.map ActorCall.row))) 5 (.val (.int .i64 ((v3 : Nat) : Int)))), RZ⟩) () h ?_ ?_
  · refine weak_roots ?_ ?_ <;> repeat' first | exact xn | exact rn | refine xc ?_ ?_ | refine rc ?_ ?_ ?_ | rfl
  rintro v3 ⟨⟩ hi4 h -
  rcases (drop_cases a0 v3 hi4).symm with ⟨hi4', _, hd7⟩ | ⟨x6, hi4', hx5, hd7⟩
  · rw [hd7] at h
    simp only [ref32_SameCalls_L1] at h
    refine Wk_seq (Wk_seq (Wk_regionZ fun Z hZ => ?_))
    simp only [go_sem, seval, hi4']
    refine hZ _ (pp ?_)
    try simp only [Int.ofNat_lt, hi4', if_true, if_false] at h
    refine Wk_cond_f rfl (Wk_exit (pp (Wk_seq (Wk_regionZ fun Z hZ => ?_))))
    simp only [go_sem, seval]
    refine hZ _ (pp (Wk_ret (pp ?_)))
    cases h
    simp only [go_sem, seval]
    exact ⟨_, rfl, RokI.h, PureI.h⟩
  rw [hd7] at h
  simp only [ref32_SameCalls_L1] at h
  have hw6 := wrap_succ hi4' hl2
  refine Wk_seq (Wk_seq (Wk_regionZ fun Z hZ => ?_))
  simp only [go_sem, seval, hi4']
  refine hZ _ (pp ?_)
  try simp only [Int.ofNat_lt, hi4', if_true, if_false] at h
  refine Wk_cond_t rfl (Wk_skip (pp (Wk_seq (Wk_block (Wk_seq ?_)))))
  try rw [gx_nat hx5] at h
  obtain ⟨x1, hb8, hx9, h⟩ := gx_some h
  try simp only [Int.toNat_natCast] at hx9
  try simp only [Int.ofNat_lt, Int.natCast_nonneg, true_and] at hb8
  obtain ⟨r2, hr10, h⟩ := Option.bind_eq_some_iff.1 h
  refine Wk_regionD fun Z hZ => ?_
  simp only [go_sem, seval, hx5, hi4', hb8, hx9, hr10]
  repeat with_reducible refine and_bar (by kernel_rfl) ?_
  refine hZ _ (by kernel_rfl) (pp (Wk_cond_nbool rfl (fun hc11 => ?_) (fun hc11 => ?_)))
  · rw [if_neg (ne_true_of_eq_false hc11)] at h
    refine Wk_seq (Wk_regionZ fun Z hZ => ?_)
    simp only [go_sem, seval, hc11]
    refine hZ _ (pp (Wk_ret (pp ?_)))
    cases h
    simp only [go_sem, seval]
    exact ⟨_, rfl, RokI.h, PureI.h⟩
  rw [if_pos hc11] at h
  refine Wk_skip (pp (Wk_regionZ fun Z hZ => ?_))
  simp only [go_sem, seval, hw6, hc11]
  refine hZ _ (pp ?_)
  first | refine ⟨(), ?_, h⟩ | refine ⟨hi4', (), ?_, h⟩
  refine weak_roots ?_ ?_ <;> repeat' first | exact xn | exact rn | refine xc ?_ ?_ | refine rc ?_ ?_ ?_ | rfl
def fs_ref32_SameCalls (N : Nat) : FnS := ⟨[], true, fn2 (decL 4 ActorCall.dec) (decL 4 ActorCall.dec) fun q0 q1 => (ref32_SameCalls N q0 q1).map fun r => .val (.bool r), false⟩
attribute [go_sem] fs_ref32_SameCalls
theorem fs_ref32_SameCalls_ok (N : Nat) : FSOk Try.prog 20 (fs_ref32_SameCalls N) := ok2 (fun q0 q1 r h => by
  obtain ⟨r', hr, rfl⟩ := Option.map_eq_some_iff.1 h
  exact w_ref32_SameCalls N q0 q1 r' hr) (fun h => decL_le ActorCall.dec_le h) (fun h => decL_le ActorCall.dec_le h)


noncomputable def G_ref34_SameSubmission (N d f : Nat) : Option FnS := glist [(36, 20, fs_ref32_SameCalls N)] d f
attribute [go_sem] G_ref34_SameSubmission
theorem w_ref34_SameSubmission (N : Nat) (a0 : Submission) (a1 : Submission) (r : Bool) (h : ref34_SameSubmission N a0 a1 = some r) : Con Try.prog 25 [] true [.agg (Submission.row a0), .agg (Submission.row a1)] (.val (.bool r)) := by
  refine fun_ok4 (G := (G_ref34_SameSubmission N)) Try.func25 rfl (by decide) (by kernel_rfl) (gc 36 (fs_ref32_SameCalls_ok N) gn) [] mix (Nat.le_of_ble_eq_true rfl) ?_
  simp only [Try.f25]
  unfold ref34_SameSubmission at h
  refine Wk_seq (Wk_regionZ fun Z hZ => ?_)
  simp only [go_sem, seval]
  refine hZ _ (pp (Wk_seq (Wk_regionZ fun Z hZ => ?_)))
  simp only [go_sem, seval]
  refine sw (RX_guard_bool rfl) (fun hc1 => ?_) (fun hc1 => ?_)
  · rw [if_neg (ne_true_of_eq_false hc1)] at h
    simp only [go_sem, seval, hc1]
    refine hZ _ (pp (Wk_ret (pp ?_)))
    cases h
    simp only [go_sem, seval]
    exact ⟨_, rfl, RokI.h, PureI.h⟩
  rw [if_pos hc1] at h
  simp only [go_sem, seval, hc1]
  refine sw (RX_guard_dec rfl) (fun hc2 => ?_) (fun hc2 => ?_)
  · have hc2d := decide_eq_false hc2
    rw [if_neg hc2] at h
    simp only [go_sem, seval, hc2d]
    refine hZ _ (pp (Wk_ret (pp ?_)))
    cases h
    simp only [go_sem, seval]
    exact ⟨_, rfl, RokI.h, PureI.h⟩
  have hc2d := decide_eq_true hc2
  rw [if_pos hc2] at h
  simp only [go_sem, seval, hc2d]
  refine sw (RX_guard_dec rfl) (fun hc3 => ?_) (fun hc3 => ?_)
  · have hc3d := decide_eq_false hc3
    rw [if_neg hc3] at h
    simp only [go_sem, seval, hc3d]
    refine hZ _ (pp (Wk_ret (pp ?_)))
    cases h
    simp only [go_sem, seval]
    exact ⟨_, rfl, RokI.h, PureI.h⟩
  have hc3d := decide_eq_true hc3
  rw [if_pos hc3] at h
  simp only [go_sem, seval, hc3d]
  refine RX_guard_dec rfl (fun hc4 => ?_) (fun hc4 => ?_)
  · have hc4d := decide_eq_true hc4
    rw [if_pos hc4] at h
    obtain ⟨r1, hr5, h⟩ := Option.bind_eq_some_iff.1 h
    simp only [go_sem, seval, hc4d, hr5]
    refine hZ _ (pp (Wk_ret (pp ?_)))
    cases h
    simp only [go_sem, seval]
    exact ⟨_, rfl, RokI.h, PureI.h⟩
  have hc4d := decide_eq_false hc4
  rw [if_neg hc4] at h
  simp only [go_sem, seval, hc4d]
  refine hZ _ (pp (Wk_ret (pp ?_)))
  cases h
  simp only [go_sem, seval]
  exact ⟨_, rfl, RokI.h, PureI.h⟩
def fs_ref34_SameSubmission (N : Nat) : FnS := ⟨[], true, fn2 Submission.decA Submission.decA fun q0 q1 => (ref34_SameSubmission N q0 q1).map fun r => .val (.bool r), false⟩
attribute [go_sem] fs_ref34_SameSubmission
theorem fs_ref34_SameSubmission_ok (N : Nat) : FSOk Try.prog 25 (fs_ref34_SameSubmission N) := ok2 (fun q0 q1 r h => by
  obtain ⟨r', hr, rfl⟩ := Option.map_eq_some_iff.1 h
  exact w_ref34_SameSubmission N q0 q1 r' hr) (Submission.decA_le) (Submission.decA_le)


noncomputable def G_ref34_Same (N d f : Nat) : Option FnS := glist [(60, 25, fs_ref34_SameSubmission N)] d f
attribute [go_sem] G_ref34_Same
theorem w_ref34_Same (N : Nat) (a0 : Session) (a1 : Session) (r : Bool) (h : ref34_Same N a0 a1 = some r) : Con Try.prog 10 [] true [.agg (Session.row a0), .agg (Session.row a1)] (.val (.bool r)) := by
  refine fun_ok4 (G := (G_ref34_Same N)) Try.func10 rfl (by decide) (by kernel_rfl) (gc 60 (fs_ref34_SameSubmission_ok N) gn) [] mix (Nat.le_of_ble_eq_true rfl) ?_
  simp only [Try.f10]
  unfold ref34_Same at h
  refine Wk_seq (Wk_regionZ fun Z hZ => ?_)
  simp only [go_sem, seval]
  refine hZ _ (pp (Wk_seq ?_))
  apply Wk_join1 (fun (c3 : Bool) => ⟨tab 63 (updT (updT (updT deadT 2 (.pref 2 [] 0 0)) 3 (.pref 3 [] 0 0)) 26 (.val (.bool c3))), (upd (upd RZ 2 (.sl true none 3 (some 1) [Session.row a0])) 3 (.sl true none 3 (some 1) [Session.row a1]))⟩)
  · intro hJ1
    refine Wk_regionZ fun Z hZ => ?_
    simp only [go_sem, seval]
    refine RX_guard_nbool rfl (fun hc2 => ?_) (fun hc2 => ?_)
    · rw [if_neg (ne_true_of_eq_false hc2)] at h
      simp only [go_sem, seval, hc2]
      refine hZ _ (pp (hJ1 _ true ?_ h))
      refine weak_roots ?_ ?_ <;> repeat' first | exact xn | exact rn | refine xc ?_ ?_ | refine rc ?_ ?_ ?_ | rfl
    rw [if_pos hc2] at h
    simp only [go_sem, seval, hc2]
    refine RX_guard_ndec rfl (fun hc3 => ?_) (fun hc3 => ?_)
    · have hc3d := decide_eq_false hc3
      rw [if_neg hc3] at h
      simp only [go_sem, seval, hc3d]
      refine hZ _ (pp (hJ1 _ true ?_ h))
      refine weak_roots ?_ ?_ <;> repeat' first | exact xn | exact rn | refine xc ?_ ?_ | refine rc ?_ ?_ ?_ | rfl
    have hc3d := decide_eq_true hc3
    rw [if_pos hc3] at h
    simp only [go_sem, seval, hc3d]
    refine hZ _ (pp (hJ1 _ (!decide (((a0.Open.length : Nat) : Int) = ((a1.Open.length : Nat) : Int))) ?_ h))
    refine weak_roots ?_ ?_ <;> repeat' first | exact xn | exact rn | refine xc ?_ ?_ | refine rc ?_ ?_ ?_ | rfl
  intro c3 h
  unfold ref34_Same_J1 at h
  refine Wk_cond_bool rfl (fun hc4 => ?_) (fun hc4 => ?_)
  · rw [if_pos hc4] at h
    refine Wk_seq (Wk_regionZ fun Z hZ => ?_)
    simp only [go_sem, seval, hc4]
    refine hZ _ (pp (Wk_ret (pp ?_)))
    cases h
    simp only [go_sem, seval]
    exact ⟨_, rfl, RokI.h, PureI.h⟩
  rw [if_neg (ne_true_of_eq_false hc4)] at h
  refine Wk_skip (pp ?_)
  unfold ref34_Same_J3 at h
  refine Wk_seq (Wk_seq (Wk_regionZ fun Z hZ => ?_))
  simp only [go_sem, seval, hc4]
  refine hZ _ (pp (Wk_block (Wk_real fun hreal6 => ?_)))
  have hl5 := hreal6.cell 2 2 (by simp only [go_sem, seval]; rfl) rfl
  rw [List.length_map] at hl5
  refine Wk_range (fun (v5 : Nat) (b : Unit) => ⟨tab 63 (updT (updT (updT deadT 2 (.pref 2 [] 0 0)) 3 (.pref 3 [] 0 0)) 5 (.val (.int .i64 ((v5 : Nat) : Int)))), (upd (upd RZ 2 (.sl true none 3 (some 1) [Session.row a0])) 3 (.sl true none 3 (some 1) [Session.row a1]))⟩) () h ?_ ?_
  · refine weak_roots ?_ ?_ <;> repeat' first | exact xn | exact rn | refine xc ?_ ?_ | refine rc ?_ ?_ ?_ | rfl
  rintro v5 ⟨⟩ hi7 h -
  rcases (drop_cases a0.Open v5 hi7).symm with ⟨hi7', _, hd10⟩ | ⟨x8, hi7', hx8, hd10⟩
  · rw [hd10] at h
    simp only [ref34_Same_L1] at h
    refine Wk_seq (Wk_seq (Wk_regionZ fun Z hZ => ?_))
    simp only [go_sem, seval, hi7']
    refine hZ _ (pp ?_)
    try simp only [Int.ofNat_lt, hi7', if_true, if_false] at h
    refine Wk_cond_f rfl (Wk_exit (pp (Wk_seq (Wk_regionZ fun Z hZ => ?_))))
    simp only [go_sem, seval]
    refine hZ _ (pp (Wk_ret (pp ?_)))
    cases h
    simp only [go_sem, seval]
    exact ⟨_, rfl, RokI.h, PureI.h⟩
  rw [hd10] at h
  simp only [ref34_Same_L1] at h
  have hw9 := wrap_succ hi7' hl5
  refine Wk_seq (Wk_seq (Wk_regionZ fun Z hZ => ?_))
  simp only [go_sem, seval, hi7']
  refine hZ _ (pp ?_)
  try simp only [Int.ofNat_lt, hi7', if_true, if_false] at h
  refine Wk_cond_t rfl (Wk_skip (pp (Wk_seq (Wk_block ?_))))
  apply Wk_join1 (fun (c6 : Bool) => ⟨tab 63 (updT (updT (updT (updT deadT 2 (.pref 2 [] 0 0)) 3 (.pref 3 [] 0 0)) 5 (.val (.int .i64 ((v5 : Nat) : Int)))) 62 (.val (.bool c6))), (upd (upd RZ 2 (.sl true none 3 (some 1) [Session.row a0])) 3 (.sl true none 3 (some 1) [Session.row a1]))⟩)
  · intro hJ11
    try rw [gx_nat hx8] at h
    obtain ⟨x7, hb12, hx13, h⟩ := gx_some h
    try simp only [Int.toNat_natCast] at hx13
    try simp only [Int.ofNat_lt, Int.natCast_nonneg, true_and] at hb12
    refine Wk_regionD fun Z hZ => ?_
    simp only [go_sem, seval, hx8, hi7', hb12, hx13]
    refine RX_guard_ndec rfl (fun hc14 => ?_) (fun hc14 => ?_)
    · have hc14d := decide_eq_false hc14
      rw [if_neg hc14] at h
      simp only [go_sem, seval, hc14d]
      refine hZ _ (by kernel_rfl) (pp (hJ11 _ true ?_ h))
      refine weak_roots ?_ ?_ <;> repeat' first | exact xn | exact rn | refine xc ?_ ?_ | refine rc ?_ ?_ ?_ | rfl
    have hc14d := decide_eq_true hc14
    rw [if_pos hc14] at h
    try rw [gx_nat hx8] at h
    obtain ⟨r8, hr15, h⟩ := Option.bind_eq_some_iff.1 h
    simp only [go_sem, seval, hx8, hi7', hb12, hx13, hc14d, hr15]
    repeat with_reducible refine and_bar (by kernel_rfl) ?_
    refine hZ _ (by kernel_rfl) (pp (hJ11 _ (!r8) ?_ h))
    refine weak_roots ?_ ?_ <;> repeat' first | exact xn | exact rn | refine xc ?_ ?_ | refine rc ?_ ?_ ?_ | rfl
  intro c6 h
  unfold ref34_Same_J2 at h
  refine Wk_cond_bool rfl (fun hc16 => ?_) (fun hc16 => ?_)
  · rw [if_pos hc16] at h
    refine Wk_seq (Wk_regionZ fun Z hZ => ?_)
    simp only [go_sem, seval, hc16]
    refine hZ _ (pp (Wk_ret (pp ?_)))
    cases h
    simp only [go_sem, seval]
    exact ⟨_, rfl, RokI.h, PureI.h⟩
  rw [if_neg (ne_true_of_eq_false hc16)] at h
  refine Wk_skip (pp (Wk_regionZ fun Z hZ => ?_))
  simp only [go_sem, seval, hw9, hc16]
  refine hZ _ (pp ?_)
  first | refine ⟨(), ?_, h⟩ | refine ⟨hi7', (), ?_, h⟩
  refine weak_roots ?_ ?_ <;> repeat' first | exact xn | exact rn | refine xc ?_ ?_ | refine rc ?_ ?_ ?_ | rfl
def fs_ref34_Same (N : Nat) : FnS := ⟨[], true, fn2 Session.decA Session.decA fun q0 q1 => (ref34_Same N q0 q1).map fun r => .val (.bool r), false⟩
attribute [go_sem] fs_ref34_Same
theorem fs_ref34_Same_ok (N : Nat) : FSOk Try.prog 10 (fs_ref34_Same N) := ok2 (fun q0 q1 r h => by
  obtain ⟨r', hr, rfl⟩ := Option.map_eq_some_iff.1 h
  exact w_ref34_Same N q0 q1 r' hr) (Session.decA_le) (Session.decA_le)


noncomputable def G_ref34_SameSubmissions (N d f : Nat) : Option FnS := glist [(25, 25, fs_ref34_SameSubmission N)] d f
attribute [go_sem] G_ref34_SameSubmissions
theorem w_ref34_SameSubmissions (N : Nat) (a0 : (List Submission)) (a1 : (List Submission)) (r : Bool) (h : ref34_SameSubmissions N a0 a1 = some r) : Con Try.prog 33 [] true [.sl false none 5 none (a0.map Submission.row), .sl false none 5 none (a1.map Submission.row)] (.val (.bool r)) := by
  refine fun_ok4 (G := (G_ref34_SameSubmissions N)) Try.func33 rfl (by decide) (by kernel_rfl) (gc 25 (fs_ref34_SameSubmission_ok N) gn) [] mix (Nat.le_of_ble_eq_true rfl) ?_
  simp only [Try.f33]
  unfold ref34_SameSubmissions at h
  refine Wk_seq (Wk_regionZ fun Z hZ => ?_)
  simp only [go_sem, seval]
  refine hZ _ (pp (Wk_seq (Wk_seq (Wk_regionZ fun Z hZ => ?_))))
  simp only [go_sem, seval]
  refine hZ _ (pp (Wk_cond_ndec rfl (fun hc1 => ?_) (fun hc1 => ?_)))
  · have hc1d := decide_eq_false hc1
    rw [if_neg hc1] at h
    refine Wk_seq (Wk_regionZ fun Z hZ => ?_)
    simp only [go_sem, seval, hc1d]
    refine hZ _ (pp (Wk_ret (pp ?_)))
    cases h
    simp only [go_sem, seval]
    exact ⟨_, rfl, RokI.h, PureI.h⟩
  have hc1d := decide_eq_true hc1
  rw [if_pos hc1] at h
  refine Wk_skip (pp (Wk_seq (Wk_seq (Wk_regionZ fun Z hZ => ?_))))
  simp only [go_sem, seval, hc1d]
  refine hZ _ (pp (Wk_block (Wk_real fun hreal3 => ?_)))
  have hl2 := hreal3.lenT 0 (by decide) (by simp only [go_sem, seval]; rfl)
  rw [List.length_map] at hl2
  refine Wk_range (fun (v3 : Nat) (b : Unit) => ⟨tab 27 (updT (updT (updT deadT 0 (.sl false none 5 none (a0.map Submission.row))) 1 (.sl false none 5 none (a1.map Submission.row))) 5 (.val (.int .i64 ((v3 : Nat) : Int)))), RZ⟩) () h ?_ ?_
  · refine weak_roots ?_ ?_ <;> repeat' first | exact xn | exact rn | refine xc ?_ ?_ | refine rc ?_ ?_ ?_ | rfl
  rintro v3 ⟨⟩ hi4 h -
  rcases (drop_cases a0 v3 hi4).symm with ⟨hi4', _, hd7⟩ | ⟨x6, hi4', hx5, hd7⟩
  · rw [hd7] at h
    simp only [ref34_SameSubmissions_L1] at h
    refine Wk_seq (Wk_seq (Wk_regionZ fun Z hZ => ?_))
    simp only [go_sem, seval, hi4']
    refine hZ _ (pp ?_)
    try simp only [Int.ofNat_lt, hi4', if_true, if_false] at h
    refine Wk_cond_f rfl (Wk_exit (pp (Wk_seq (Wk_regionZ fun Z hZ => ?_))))
    simp only [go_sem, seval]
    refine hZ _ (pp (Wk_ret (pp ?_)))
    cases h
    simp only [go_sem, seval]
    exact ⟨_, rfl, RokI.h, PureI.h⟩
  rw [hd7] at h
  simp only [ref34_SameSubmissions_L1] at h
  have hw6 := wrap_succ hi4' hl2
  refine Wk_seq (Wk_seq (Wk_regionZ fun Z hZ => ?_))
  simp only [go_sem, seval, hi4']
  refine hZ _ (pp ?_)
  try simp only [Int.ofNat_lt, hi4', if_true, if_false] at h
  refine Wk_cond_t rfl (Wk_skip (pp (Wk_seq (Wk_block (Wk_seq ?_)))))
  try rw [gx_nat hx5] at h
  obtain ⟨x1, hb8, hx9, h⟩ := gx_some h
  try simp only [Int.toNat_natCast] at hx9
  try simp only [Int.ofNat_lt, Int.natCast_nonneg, true_and] at hb8
  obtain ⟨r2, hr10, h⟩ := Option.bind_eq_some_iff.1 h
  refine Wk_regionD fun Z hZ => ?_
  simp only [go_sem, seval, hx5, hi4', hb8, hx9, hr10]
  repeat with_reducible refine and_bar (by kernel_rfl) ?_
  refine hZ _ (by kernel_rfl) (pp (Wk_cond_nbool rfl (fun hc11 => ?_) (fun hc11 => ?_)))
  · rw [if_neg (ne_true_of_eq_false hc11)] at h
    refine Wk_seq (Wk_regionZ fun Z hZ => ?_)
    simp only [go_sem, seval, hc11]
    refine hZ _ (pp (Wk_ret (pp ?_)))
    cases h
    simp only [go_sem, seval]
    exact ⟨_, rfl, RokI.h, PureI.h⟩
  rw [if_pos hc11] at h
  refine Wk_skip (pp (Wk_regionZ fun Z hZ => ?_))
  simp only [go_sem, seval, hw6, hc11]
  refine hZ _ (pp ?_)
  first | refine ⟨(), ?_, h⟩ | refine ⟨hi4', (), ?_, h⟩
  refine weak_roots ?_ ?_ <;> repeat' first | exact xn | exact rn | refine xc ?_ ?_ | refine rc ?_ ?_ ?_ | rfl
def fs_ref34_SameSubmissions (N : Nat) : FnS := ⟨[], true, fn2 (decL 5 Submission.dec) (decL 5 Submission.dec) fun q0 q1 => (ref34_SameSubmissions N q0 q1).map fun r => .val (.bool r), false⟩
attribute [go_sem] fs_ref34_SameSubmissions
theorem fs_ref34_SameSubmissions_ok (N : Nat) : FSOk Try.prog 33 (fs_ref34_SameSubmissions N) := ok2 (fun q0 q1 r h => by
  obtain ⟨r', hr, rfl⟩ := Option.map_eq_some_iff.1 h
  exact w_ref34_SameSubmissions N q0 q1 r' hr) (fun h => decL_le Submission.dec_le h) (fun h => decL_le Submission.dec_le h)


noncomputable def G_ref34_Acknowledged (N d f : Nat) : Option FnS := glist [(4, 34, fs_ref34_Valid N), (7, 52, fs_ref34_acknowledged N)] d f
attribute [go_sem] G_ref34_Acknowledged
theorem w_ref34_Acknowledged (N : Nat) (a0 : Session) (r : Int) (h : ref34_Acknowledged N a0 = some r) : Con Try.prog 35 [] true [.agg (Session.row a0)] (.val (.int .i64 r)) := by
  refine fun_ok4 (G := (G_ref34_Acknowledged N)) Try.func35 rfl (by decide) (by kernel_rfl) (gc 4 (fs_ref34_Valid_ok N) (gc 7 (fs_ref34_acknowledged_ok N) gn)) [] mix (Nat.le_of_ble_eq_true rfl) ?_
  simp only [Try.f35]
  unfold ref34_Acknowledged at h
  refine Wk_seq (Wk_regionZ fun Z hZ => ?_)
  simp only [go_sem, seval]
  refine hZ _ (pp (Wk_seq (Wk_seq ?_)))
  obtain ⟨r1, hr1, h⟩ := Option.bind_eq_some_iff.1 h
  refine Wk_regionZ fun Z hZ => ?_
  simp only [go_sem, seval, hr1]
  refine hZ _ (pp (Wk_cond_nbool rfl (fun hc2 => ?_) (fun hc2 => ?_)))
  · rw [if_neg (ne_true_of_eq_false hc2)] at h
    refine Wk_seq (Wk_regionZ fun Z hZ => ?_)
    simp only [go_sem, seval, hc2]
    refine hZ _ (pp (Wk_ret (pp ?_)))
    cases h
    simp only [go_sem, seval]
    exact ⟨_, rfl, RokI.h, PureI.h⟩
  rw [if_pos hc2] at h
  refine Wk_skip (pp (Wk_seq ?_))
  obtain ⟨r2, hr3, h⟩ := Option.bind_eq_some_iff.1 h
  refine Wk_regionZ fun Z hZ => ?_
  simp only [go_sem, seval, hc2, hr3]
  refine hZ _ (pp (Wk_ret (pp ?_)))
  cases h
  simp only [go_sem, seval]
  exact ⟨_, rfl, RokI.h, PureI.h⟩
def fs_ref34_Acknowledged (N : Nat) : FnS := ⟨[], true, fn1 Session.decA fun q0 => (ref34_Acknowledged N q0).map fun r => .val (.int .i64 r), false⟩
attribute [go_sem] fs_ref34_Acknowledged
theorem fs_ref34_Acknowledged_ok (N : Nat) : FSOk Try.prog 35 (fs_ref34_Acknowledged N) := ok1 (fun q0 r h => by
  obtain ⟨r', hr, rfl⟩ := Option.map_eq_some_iff.1 h
  exact w_ref34_Acknowledged N q0 r' hr) (Session.decA_le)


noncomputable def G_law34_agree (N d f : Nat) : Option FnS := glist [(30, 21, fs_session_Submit N), (39, 30, fs_ref34_Submit N), (46, 19, fs_session_Resend N), (52, 31, fs_ref34_Resend N), (58, 22, fs_session_Accept N), (64, 32, fs_ref34_Accept N), (73, 10, fs_ref34_Same N), (79, 25, fs_ref34_SameSubmission N), (85, 10, fs_ref34_Same N), (91, 33, fs_ref34_SameSubmissions N), (100, 10, fs_ref34_Same N), (104, 17, fs_session_Valid N), (106, 34, fs_ref34_Valid N), (111, 18, fs_session_Acknowledged N), (113, 35, fs_ref34_Acknowledged N)] d f
attribute [go_sem] G_law34_agree
theorem w_law34_agree (N : Nat) (a0 : Session) (a1 : Int) (a2 : Bool) (a3 : (List ActorCall)) (a4 : Reply) (r : Bool) (h : law34_agree N a0 a1 a2 a3 a4 = some r) : Con Try.prog 13 [] true [.agg (Session.row a0), .val (.int .i64 a1), .val (.bool a2), .sl false none 4 none (a3.map ActorCall.row), .agg (Reply.row a4)] (.val (.bool r)) := by
  refine fun_ok4 (G := (G_law34_agree N)) Try.func13 rfl (by decide) (by kernel_rfl) (gc 30 (fs_session_Submit_ok N) (gc 39 (fs_ref34_Submit_ok N) (gc 46 (fs_session_Resend_ok N) (gc 52 (fs_ref34_Resend_ok N) (gc 58 (fs_session_Accept_ok N) (gc 64 (fs_ref34_Accept_ok N) (gc 73 (fs_ref34_Same_ok N) (gc 79 (fs_ref34_SameSubmission_ok N) (gc 85 (fs_ref34_Same_ok N) (gc 91 (fs_ref34_SameSubmissions_ok N) (gc 100 (fs_ref34_Same_ok N) (gc 104 (fs_session_Valid_ok N) (gc 106 (fs_ref34_Valid_ok N) (gc 111 (fs_session_Acknowledged_ok N) (gc 113 (fs_ref34_Acknowledged_ok N) gn))))))))))))))) [] mix (Nat.le_of_ble_eq_true rfl) ?_
  simp only [Try.f13]
  unfold law34_agree at h
  refine Wk_seq (Wk_regionZ fun Z hZ => ?_)
  simp only [go_sem, seval]
  refine hZ _ (pp (Wk_seq ?_))
  obtain ⟨r1, hr1, h⟩ := Option.bind_eq_some_iff.1 h
  refine Wk_regionZ fun Z hZ => ?_
  simp only [go_sem, seval, hr1]
  refine hZ _ (pp (Wk_seq ?_))
  obtain ⟨r2, hr2, h⟩ := Option.bind_eq_some_iff.1 h
  refine Wk_regionZ fun Z hZ => ?_
  simp only [go_sem, seval, hr2]
  refine hZ _ (pp (Wk_seq ?_))
  obtain ⟨r3, hr3, h⟩ := Option.bind_eq_some_iff.1 h
  refine Wk_regionZ fun Z hZ => ?_
  simp only [go_sem, seval, hr3]
  refine hZ _ (pp (Wk_seq ?_))
  obtain ⟨r4, hr4, h⟩ := Option.bind_eq_some_iff.1 h
  refine Wk_regionZ fun Z hZ => ?_
  simp only [go_sem, seval, hr4]
  refine hZ _ (pp (Wk_seq ?_))
  obtain ⟨r5, hr5, h⟩ := Option.bind_eq_some_iff.1 h
  refine Wk_regionZ fun Z hZ => ?_
  simp only [go_sem, seval, hr5]
  refine hZ _ (pp (Wk_seq ?_))
  obtain ⟨r6, hr6, h⟩ := Option.bind_eq_some_iff.1 h
  refine Wk_regionZ fun Z hZ => ?_
  simp only [go_sem, seval, hr6]
  refine hZ _ (pp (Wk_seq ?_))
  apply Wk_join1 (fun (c17 : Bool) => ⟨tab 116 (updT (updT (updT (updT (updT (updT deadT 5 (.pref 5 [] 0 0)) 21 (.pref 21 [] 0 0)) 22 (.val (.bool r5.2))) 23 (.pref 23 [] 0 0)) 24 (.val (.bool r6.2))) 93 (.val (.bool c17))), (upd (upd (upd RZ 5 (.sl true none 3 (some 1) [Session.row a0])) 21 (.sl true none 3 (some 1) [Session.row r5.1])) 23 (.sl true none 3 (some 1) [Session.row r6.1]))⟩)
  · intro hJ7
    refine Wk_regionZ fun Z hZ => ?_
    simp only [go_sem, seval]
    refine RX_guard_ndec rfl (fun hc8 => ?_) (fun hc8 => ?_)
    · have hc8d := decide_eq_false hc8
      rw [if_neg hc8] at h
      simp only [go_sem, seval, hc8d]
      refine hZ _ (pp (hJ7 _ true ?_ h))
      refine weak_roots ?_ ?_ <;> repeat' first | exact xn | exact rn | refine xc ?_ ?_ | refine rc ?_ ?_ ?_ | rfl
    have hc8d := decide_eq_true hc8
    rw [if_pos hc8] at h
    obtain ⟨r18, hr9, h⟩ := Option.bind_eq_some_iff.1 h
    simp only [go_sem, seval, hc8d, hr9]
    refine RX_guard_nbool rfl (fun hc10 => ?_) (fun hc10 => ?_)
    · rw [if_neg (ne_true_of_eq_false hc10)] at h
      simp only [go_sem, seval, hc10]
      refine hZ _ (pp (hJ7 _ true ?_ h))
      refine weak_roots ?_ ?_ <;> repeat' first | exact xn | exact rn | refine xc ?_ ?_ | refine rc ?_ ?_ ?_ | rfl
    rw [if_pos hc10] at h
    obtain ⟨r19, hr11, h⟩ := Option.bind_eq_some_iff.1 h
    simp only [go_sem, seval, hc10, hr11]
    refine RX_guard_nbool rfl (fun hc12 => ?_) (fun hc12 => ?_)
    · rw [if_neg (ne_true_of_eq_false hc12)] at h
      simp only [go_sem, seval, hc12]
      refine hZ _ (pp (hJ7 _ true ?_ h))
      refine weak_roots ?_ ?_ <;> repeat' first | exact xn | exact rn | refine xc ?_ ?_ | refine rc ?_ ?_ ?_ | rfl
    rw [if_pos hc12] at h
    obtain ⟨r20, hr13, h⟩ := Option.bind_eq_some_iff.1 h
    simp only [go_sem, seval, hc12, hr13]
    refine RX_guard_nbool rfl (fun hc14 => ?_) (fun hc14 => ?_)
    · rw [if_neg (ne_true_of_eq_false hc14)] at h
      simp only [go_sem, seval, hc14]
      refine hZ _ (pp (hJ7 _ true ?_ h))
      refine weak_roots ?_ ?_ <;> repeat' first | exact xn | exact rn | refine xc ?_ ?_ | refine rc ?_ ?_ ?_ | rfl
    rw [if_pos hc14] at h
    obtain ⟨r21, hr15, h⟩ := Option.bind_eq_some_iff.1 h
    simp only [go_sem, seval, hc14, hr15]
    refine hZ _ (pp (hJ7 _ (!r21) ?_ h))
    refine weak_roots ?_ ?_ <;> repeat' first | exact xn | exact rn | refine xc ?_ ?_ | refine rc ?_ ?_ ?_ | rfl
  intro c17 h
  unfold law34_agree_J1 at h
  refine Wk_cond_bool rfl (fun hc16 => ?_) (fun hc16 => ?_)
  · rw [if_pos hc16] at h
    refine Wk_seq (Wk_regionZ fun Z hZ => ?_)
    simp only [go_sem, seval, hc16]
    refine hZ _ (pp (Wk_ret (pp ?_)))
    cases h
    simp only [go_sem, seval]
    exact ⟨_, rfl, RokI.h, PureI.h⟩
  rw [if_neg (ne_true_of_eq_false hc16)] at h
  refine Wk_skip (pp ?_)
  unfold law34_agree_J2 at h
  refine Wk_seq (Wk_regionD fun Z hZ => ?_)
  simp only [go_sem, seval, hc16]
  refine sw (RX_guard_dec rfl) (fun hc17 => ?_) (fun hc17 => ?_)
  · have hc17d := decide_eq_false hc17
    rw [if_neg hc17] at h
    simp only [go_sem, seval, hc17d]
    refine hZ _ (by kernel_rfl) (pp (Wk_ret (pp ?_)))
    cases h
    simp only [go_sem, seval]
    exact ⟨_, rfl, RokI.h, PureI.h⟩
  have hc17d := decide_eq_true hc17
  rw [if_pos hc17] at h
  obtain ⟨r22, hr18, h⟩ := Option.bind_eq_some_iff.1 h
  simp only [go_sem, seval, hc17d, hr18]
  repeat with_reducible refine and_bar (by kernel_rfl) ?_
  refine sw (RX_guard_bool rfl) (fun hc19 => ?_) (fun hc19 => ?_)
  · rw [if_neg (ne_true_of_eq_false hc19)] at h
    simp only [go_sem, seval, hc19]
    refine hZ _ (by kernel_rfl) (pp (Wk_ret (pp ?_)))
    cases h
    simp only [go_sem, seval]
    exact ⟨_, rfl, RokI.h, PureI.h⟩
  rw [if_pos hc19] at h
  obtain ⟨r23, hr20, h⟩ := Option.bind_eq_some_iff.1 h
  obtain ⟨r24, hr21, h⟩ := Option.bind_eq_some_iff.1 h
  simp only [go_sem, seval, hc19, hr20, hr21]
  repeat with_reducible refine and_bar (by kernel_rfl) ?_
  refine RX_guard_dec rfl (fun hc22 => ?_) (fun hc22 => ?_)
  · have hc22d := decide_eq_true hc22
    rw [if_pos hc22] at h
    obtain ⟨r25, hr23, h⟩ := Option.bind_eq_some_iff.1 h
    obtain ⟨r26, hr24, h⟩ := Option.bind_eq_some_iff.1 h
    simp only [go_sem, seval, hc22d, hr23, hr24]
    repeat with_reducible refine and_bar (by kernel_rfl) ?_
    refine hZ _ (by kernel_rfl) (pp (Wk_ret (pp ?_)))
    cases h
    simp only [go_sem, seval]
    exact ⟨_, rfl, RokI.h, PureI.h⟩
  have hc22d := decide_eq_false hc22
  rw [if_neg hc22] at h
  simp only [go_sem, seval, hc22d]
  refine hZ _ (by kernel_rfl) (pp (Wk_ret (pp ?_)))
  cases h
  simp only [go_sem, seval]
  exact ⟨_, rfl, RokI.h, PureI.h⟩
def fs_law34_agree (N : Nat) : FnS := ⟨[], true, fn5 Session.decA (decI .i64) decB (decL 4 ActorCall.dec) Reply.decA fun q0 q1 q2 q3 q4 => (law34_agree N q0 q1 q2 q3 q4).map fun r => .val (.bool r), false⟩
attribute [go_sem] fs_law34_agree
theorem fs_law34_agree_ok (N : Nat) : FSOk Try.prog 13 (fs_law34_agree N) := ok5 (fun q0 q1 q2 q3 q4 r h => by
  obtain ⟨r', hr, rfl⟩ := Option.map_eq_some_iff.1 h
  exact w_law34_agree N q0 q1 q2 q3 q4 r' hr) (Session.decA_le) (decI_le) (decB_le) (fun h => decL_le ActorCall.dec_le h) (Reply.decA_le)


noncomputable def G_law34_play (N d f : Nat) : Option FnS := glist [(29, 14, fs_law34_call N), (30, 21, fs_session_Submit N), (43, 19, fs_session_Resend N), (51, 15, fs_law34_reply N), (53, 22, fs_session_Accept N)] d f
attribute [go_sem] G_law34_play
theorem w_law34_play (N : Nat) (a0 : Session) (a1 : Int) (a2 : actorgridlaw34_Act) (r : Session × Bool × Bool) (h : law34_play N a0 a1 a2 = some r) : Con Try.prog 16 [] false [.agg (Session.row a0), .val (.int .i64 a1), .agg (actorgridlaw34_Act.row a2)] (.tup [.agg (Session.row r.1), .val (.bool r.2.1), .val (.bool r.2.2)]) := by
  refine fun_ok4 (G := (G_law34_play N)) Try.func16 rfl (by decide) (by kernel_rfl) (gc 29 (fs_law34_call_ok N) (gc 30 (fs_session_Submit_ok N) (gc 43 (fs_session_Resend_ok N) (gc 51 (fs_law34_reply_ok N) (gc 53 (fs_session_Accept_ok N) gn))))) [] mix (Nat.le_of_ble_eq_true rfl) ?_
  simp only [Try.f16]
  unfold law34_play at h
  refine Wk_seq (Wk_regionZ fun Z hZ => ?_)
  simp only [go_sem, seval]
  refine hZ _ (pp (Wk_seq (Wk_seq (Wk_regionZ fun Z hZ => ?_))))
  simp only [go_sem, seval]
  refine hZ _ (pp (Wk_block ?_))
  apply Wk_join1 (fun (c7 : Bool) => ⟨tab 58 (updT (updT (updT (updT (updT (updT deadT 1 (.val (.int .i64 a1))) 3 (.pref 3 [] 0 0)) 5 (.pref 5 [] 0 0)) 6 (.pref 6 [] 0 0)) 18 (.val (.int .u8 (Int.tmod a2.Kind 4)))) 19 (.val (.bool c7))), (upd (upd (upd RZ 3 (.sl true none 3 (some 1) [Session.row a0])) 5 (.sl true none 3 (some 1) [actorgridlaw34_Act.row a2])) 6 (.sl true none 3 (some 1) [[.val (.string (⟨#[]⟩)), .val (.int .i64 0), .val (.slice none 0 0)]]))⟩)
  · intro hJ1
    refine Wk_seq (Wk_regionZ fun Z hZ => ?_)
    simp only [go_sem, seval]
    refine hZ _ (pp (Wk_cond_dec rfl (fun hc2 => ?_) (fun hc2 => ?_)))
    · have hc2d := decide_eq_true hc2
      rw [if_pos hc2] at h
      refine Wk_skip (pp (hJ1 _ true ?_ h))
      refine weak_roots ?_ ?_ <;> repeat' first | exact xn | exact rn | refine xc ?_ ?_ | refine rc ?_ ?_ ?_ | rfl | simp only [go_sem, seval, hc2d]
    have hc2d := decide_eq_false hc2
    rw [if_neg hc2] at h
    refine Wk_regionZ fun Z hZ => ?_
    simp only [go_sem, seval, hc2d]
    refine hZ _ (pp (hJ1 _ (decide ((Int.tmod a2.Kind 4) = 1)) ?_ h))
    refine weak_roots ?_ ?_ <;> repeat' first | exact xn | exact rn | refine xc ?_ ?_ | refine rc ?_ ?_ ?_ | rfl | simp only [go_sem, seval, Bool.or_self, List.length_set, Int.natCast_zero, Int.cast_ofNat_Int, hc2d]
  intro c7 h
  unfold law34_play_J1 at h
  refine Wk_cond_bool rfl (fun hc3 => ?_) (fun hc3 => ?_)
  · rw [if_pos hc3] at h
    refine Wk_seq ?_
    obtain ⟨r8, hr4, h⟩ := Option.bind_eq_some_iff.1 h
    obtain ⟨r9, hr5, h⟩ := Option.bind_eq_some_iff.1 h
    refine Wk_regionH fun Y hY => ?_
    refine RX2_s rfl rfl fun Z hZ => ?_
    simp only [go_sem, seval, hc3]
    repeat with_reducible refine and_bar (by kernel_rfl) ?_
    refine hZ _ ?_
    refine RX2_s rfl rfl fun Z hZ => ?_
    simp only [go_sem, seval]
    refine hZ _ ?_
    refine RX2_s rfl rfl fun Z hZ => ?_
    simp only [go_sem, seval]
    refine hZ _ ?_
    refine RX2_s rfl rfl fun Z hZ => ?_
    simp only [go_sem, seval]
    refine hZ _ ?_
    refine RX2_s rfl rfl fun Z hZ => ?_
    simp only [go_sem, seval]
    refine hZ _ ?_
    refine RX2_s rfl rfl fun Z hZ => ?_
    simp only [go_sem, seval]
    refine hZ _ ?_
    refine RX2_s rfl rfl fun Z hZ => ?_
    simp only [go_sem, seval, hr4]
    refine hZ _ ?_
    refine RX2_s rfl rfl fun Z hZ => ?_
    simp only [go_sem, seval, hr5]
    refine hZ _ ?_
    refine RX2_s rfl rfl fun Z hZ => ?_
    simp only [go_sem, seval]
    refine hZ _ ?_
    refine RX2_s rfl rfl fun Z hZ => ?_
    simp only [go_sem, seval]
    refine hZ _ ?_
    refine RX2_s rfl rfl fun Z hZ => ?_
    simp only [go_sem, seval]
    refine hZ _ ?_
    refine RX2_s rfl rfl fun Z hZ => ?_
    simp only [go_sem, seval]
    refine hZ _ ?_
    refine RX2_s rfl rfl fun Z hZ => ?_
    simp only [go_sem, seval]
    refine hZ _ ?_
    refine RX2_s rfl rfl fun Z hZ => ?_
    simp only [go_sem, seval]
    refine hZ _ ?_
    refine RX2_w fun Z hZ => ?_
    simp only [go_sem, seval]
    refine hZ _ ?_
    refine RX2_w fun Z hZ => ?_
    simp only [go_sem, seval]
    refine hZ _ ?_
    refine RX2_s rfl rfl fun Z hZ => ?_
    simp only [go_sem, seval]
    refine hZ _ ?_
    refine RX2_end (by kernel_rfl) (hY _ (pp (Wk_seq (Wk_seq (Wk_regionZ fun Z hZ => ?_)))))
    simp only [go_sem, seval]
    refine hZ _ (pp (Wk_cond_ndec rfl (fun hc6 => ?_) (fun hc6 => ?_)))
    · have hc6d := decide_eq_false hc6
      rw [if_neg hc6] at h
      refine Wk_seq (Wk_regionZ fun Z hZ => ?_)
      simp only [go_sem, seval, hc6d]
      refine hZ _ (pp (Wk_ret (pp ?_)))
      cases h
      simp only [go_sem, seval]
      exact ⟨_, rfl, RokI.h⟩
    have hc6d := decide_eq_true hc6
    rw [if_pos hc6] at h
    refine Wk_skip (pp (Wk_seq (Wk_regionZ fun Z hZ => ?_)))
    simp only [go_sem, seval, hc6d]
    refine hZ _ (pp (Wk_ret (pp ?_)))
    cases h
    simp only [go_sem, seval]
    exact ⟨_, rfl, RokI.h⟩
  rw [if_neg (ne_true_of_eq_false hc3)] at h
  refine Wk_seq (Wk_regionZ fun Z hZ => ?_)
  simp only [go_sem, seval, hc3]
  refine hZ _ (pp (Wk_cond_dec rfl (fun hc7 => ?_) (fun hc7 => ?_)))
  · have hc7d := decide_eq_true hc7
    rw [if_pos hc7] at h
    refine Wk_seq ?_
    obtain ⟨r10, hr8, h⟩ := Option.bind_eq_some_iff.1 h
    refine Wk_regionZ fun Z hZ => ?_
    simp only [go_sem, seval, hc7d, hr8]
    refine hZ _ (pp (Wk_seq (Wk_regionZ fun Z hZ => ?_)))
    simp only [go_sem, seval]
    refine hZ _ (pp (Wk_ret (pp ?_)))
    cases h
    simp only [go_sem, seval]
    exact ⟨_, rfl, RokI.h⟩
  have hc7d := decide_eq_false hc7
  rw [if_neg hc7] at h
  refine Wk_skip (pp ?_)
  unfold law34_play_J2 at h
  refine Wk_seq ?_
  obtain ⟨r11, hr9, h⟩ := Option.bind_eq_some_iff.1 h
  obtain ⟨r12, hr10, h⟩ := Option.bind_eq_some_iff.1 h
  refine Wk_regionH fun Y hY => ?_
  refine RX2_s rfl rfl fun Z hZ => ?_
  simp only [go_sem, seval, hc7d]
  repeat with_reducible refine and_bar (by kernel_rfl) ?_
  refine hZ _ ?_
  refine RX2_s rfl rfl fun Z hZ => ?_
  simp only [go_sem, seval]
  refine hZ _ ?_
  refine RX2_s rfl rfl fun Z hZ => ?_
  simp only [go_sem, seval]
  refine hZ _ ?_
  refine RX2_s rfl rfl fun Z hZ => ?_
  simp only [go_sem, seval, hr9]
  refine hZ _ ?_
  refine RX2_s rfl rfl fun Z hZ => ?_
  simp only [go_sem, seval]
  refine hZ _ ?_
  refine RX2_s rfl rfl fun Z hZ => ?_
  simp only [go_sem, seval, hr10]
  refine hZ _ ?_
  refine RX2_s rfl rfl fun Z hZ => ?_
  simp only [go_sem, seval]
  refine hZ _ ?_
  refine RX2_s rfl rfl fun Z hZ => ?_
  simp only [go_sem, seval]
  refine hZ _ ?_
  refine RX2_s rfl rfl fun Z hZ => ?_
  simp only [go_sem, seval]
  refine hZ _ ?_
  refine RX2_s rfl rfl fun Z hZ => ?_
  simp only [go_sem, seval]
  refine hZ _ ?_
  refine RX2_w fun Z hZ => ?_
  simp only [go_sem, seval]
  refine hZ _ ?_
  refine RX2_s rfl rfl fun Z hZ => ?_
  simp only [go_sem, seval]
  refine hZ _ ?_
  refine RX2_end (by kernel_rfl) (hY _ (pp (Wk_seq (Wk_regionZ fun Z hZ => ?_))))
  simp only [go_sem, seval]
  refine hZ _ (pp (Wk_ret (pp ?_)))
  cases h
  simp only [go_sem, seval]
  exact ⟨_, rfl, RokI.h⟩
def fs_law34_play (N : Nat) : FnS := ⟨[], false, fn3 Session.decA (decI .i64) actorgridlaw34_Act.decA fun q0 q1 q2 => (law34_play N q0 q1 q2).map fun r => .tup [.agg (Session.row r.1), .val (.bool r.2.1), .val (.bool r.2.2)], false⟩
attribute [go_sem] fs_law34_play
theorem fs_law34_play_ok (N : Nat) : FSOk Try.prog 16 (fs_law34_play N) := ok3 (fun q0 q1 q2 r h => by
  obtain ⟨r', hr, rfl⟩ := Option.map_eq_some_iff.1 h
  exact w_law34_play N q0 q1 q2 r' hr) (Session.decA_le) (decI_le) (actorgridlaw34_Act.decA_le)


noncomputable def G_law34_SessionSequences (N d f : Nat) : Option FnS := glist [(7, 7, fs_law34_awake N), (13, 8, fs_session_New N), (42, 14, fs_law34_call N), (48, 15, fs_law34_reply N), (50, 13, fs_law34_agree N), (59, 16, fs_law34_play N), (64, 17, fs_session_Valid N)] d f
attribute [go_sem] G_law34_SessionSequences
theorem w_law34_SessionSequences (N : Nat) (a0 : (List actorgridlaw34_Act)) (r : Bool) (h : law34_SessionSequences N a0 = some r) : Con Try.prog 4 [] true [.sl false none 3 none (a0.map actorgridlaw34_Act.row)] (.val (.bool r)) := by
  refine fun_ok4 (G := (G_law34_SessionSequences N)) Try.func4 rfl (by decide) (by kernel_rfl) (gc 7 (fs_law34_awake_ok N) (gc 13 (fs_session_New_ok N) (gc 42 (fs_law34_call_ok N) (gc 48 (fs_law34_reply_ok N) (gc 50 (fs_law34_agree_ok N) (gc 59 (fs_law34_play_ok N) (gc 64 (fs_session_Valid_ok N) gn))))))) [] mix (Nat.le_of_ble_eq_true rfl) ?_
  simp only [Try.f4]
  unfold law34_SessionSequences at h
  refine Wk_seq (Wk_regionZ fun Z hZ => ?_)
  simp only [go_sem, seval]
  refine hZ _ (pp (Wk_seq (Wk_seq ?_)))
  obtain ⟨r1, hr1, h⟩ := Option.bind_eq_some_iff.1 h
  refine Wk_regionZ fun Z hZ => ?_
  simp only [go_sem, seval, hr1]
  refine hZ _ (pp (Wk_cond_nbool rfl (fun hc2 => ?_) (fun hc2 => ?_)))
  · rw [if_neg (ne_true_of_eq_false hc2)] at h
    refine Wk_seq (Wk_regionZ fun Z hZ => ?_)
    simp only [go_sem, seval, hc2]
    refine hZ _ (pp (Wk_ret (pp ?_)))
    cases h
    simp only [go_sem, seval]
    exact ⟨_, rfl, RokI.h, PureI.h⟩
  rw [if_pos hc2] at h
  refine Wk_skip (pp (Wk_seq (Wk_seq (Wk_regionZ fun Z hZ => ?_))))
  simp only [go_sem, seval, hc2]
  refine hZ _ (pp (Wk_cond_dec rfl (fun hc3 => ?_) (fun hc3 => ?_)))
  · have hc3d := decide_eq_true hc3
    rw [if_pos hc3] at h
    refine Wk_seq (Wk_regionZ fun Z hZ => ?_)
    simp only [go_sem, seval, hc3d]
    refine hZ _ (pp (Wk_ret (pp ?_)))
    cases h
    simp only [go_sem, seval]
    exact ⟨_, rfl, RokI.h, PureI.h⟩
  have hc3d := decide_eq_false hc3
  rw [if_neg hc3] at h
  refine Wk_skip (pp (Wk_seq ?_))
  obtain ⟨r2, hr4, h⟩ := Option.bind_eq_some_iff.1 h
  refine Wk_regionZ fun Z hZ => ?_
  simp only [go_sem, seval, hc3d, hr4]
  refine hZ _ (pp (Wk_seq (Wk_seq (Wk_regionZ fun Z hZ => ?_))))
  simp only [go_sem, seval]
  refine hZ _ (pp (Wk_cond_ndec rfl (fun hc5 => ?_) (fun hc5 => ?_)))
  · have hc5d := decide_eq_false hc5
    rw [if_neg hc5] at h
    refine Wk_seq (Wk_regionZ fun Z hZ => ?_)
    simp only [go_sem, seval, hc5d]
    refine hZ _ (pp (Wk_ret (pp ?_)))
    cases h
    simp only [go_sem, seval]
    exact ⟨_, rfl, RokI.h, PureI.h⟩
  have hc5d := decide_eq_true hc5
  rw [if_pos hc5] at h
  refine Wk_skip (pp (Wk_seq (Wk_regionZ fun Z hZ => ?_)))
  simp only [go_sem, seval, hc5d]
  refine hZ _ (pp (Wk_seq (Wk_seq (Wk_regionZ fun Z hZ => ?_))))
  simp only [go_sem, seval]
  refine hZ _ (pp (Wk_block (Wk_real fun hreal7 => ?_)))
  have hl6 := hreal7.lenT 0 (by decide) (by simp only [go_sem, seval]; rfl)
  rw [List.length_map] at hl6
  refine Wk_range (fun (v11 : Nat) (b : ByteArray × Int × List PendingSubmission × Int) => ⟨tab 66 (updT (updT (updT (updT deadT 0 (.sl false none 3 none (a0.map actorgridlaw34_Act.row))) 3 (.pref 3 [] 0 0)) 5 (.val (.int .i64 b.2.2.2))) 6 (.val (.int .i64 ((v11 : Nat) : Int)))), (upd RZ 3 (.sl true none 3 (some 1) [[.val (.string b.1), .val (.int .i64 b.2.1), .sl false none 6 none (b.2.2.1.map PendingSubmission.row)]]))⟩) (r2.1.Name, r2.1.Next, r2.1.Open, 0) h ?_ ?_
  · refine weak_roots ?_ ?_ <;> repeat' first | exact xn | exact rn | refine xc ?_ ?_ | refine rc ?_ ?_ ?_ | rfl
  rintro v11 ⟨s7, v8, l9, v10⟩ hi8 h -
  rcases (drop_cases a0 v11 hi8).symm with ⟨hi8', _, hd11⟩ | ⟨x14, hi8', hx9, hd11⟩
  · rw [hd11] at h
    simp only [law34_SessionSequences_L1] at h
    refine Wk_seq (Wk_seq (Wk_regionZ fun Z hZ => ?_))
    simp only [go_sem, seval, hi8']
    refine hZ _ (pp ?_)
    try simp only [Int.ofNat_lt, hi8', if_true, if_false] at h
    refine Wk_cond_f rfl (Wk_exit (pp (Wk_seq (Wk_regionZ fun Z hZ => ?_))))
    simp only [go_sem, seval]
    refine hZ _ (pp (Wk_ret (pp ?_)))
    cases h
    simp only [go_sem, seval]
    exact ⟨_, rfl, RokI.h, PureI.h⟩
  rw [hd11] at h
  simp only [law34_SessionSequences_L1] at h
  have hw10 := wrap_succ hi8' hl6
  refine Wk_seq (Wk_seq (Wk_regionZ fun Z hZ => ?_))
  simp only [go_sem, seval, hi8']
  refine hZ _ (pp ?_)
  try simp only [Int.ofNat_lt, hi8', if_true, if_false] at h
  refine Wk_cond_t rfl (Wk_skip (pp (Wk_seq (Wk_block (Wk_seq ?_)))))
  try rw [gx_nat hx9] at h
  refine Wk_regionZ fun Z hZ => ?_
  simp only [go_sem, seval, hx9, hi8']
  refine hZ _ (pp (Wk_seq (Wk_seq ?_)))
  try rw [gx_nat hx9] at h
  obtain ⟨r3, hr12, h⟩ := Option.bind_eq_some_iff.1 h
  try rw [gx_nat hx9] at h
  obtain ⟨r4, hr13, h⟩ := Option.bind_eq_some_iff.1 h
  obtain ⟨r5, hr14, h⟩ := Option.bind_eq_some_iff.1 h
  refine Wk_regionD fun Z hZ => ?_
  simp only [go_sem, seval, hx9, hi8', hr12, hr13, hr14]
  repeat with_reducible refine and_bar (by kernel_rfl) ?_
  refine hZ _ (by kernel_rfl) (pp (Wk_cond_nbool rfl (fun hc15 => ?_) (fun hc15 => ?_)))
  · rw [if_neg (ne_true_of_eq_false hc15)] at h
    refine Wk_seq (Wk_regionZ fun Z hZ => ?_)
    simp only [go_sem, seval, hc15]
    refine hZ _ (pp (Wk_ret (pp ?_)))
    cases h
    simp only [go_sem, seval]
    exact ⟨_, rfl, RokI.h, PureI.h⟩
  rw [if_pos hc15] at h
  refine Wk_skip (pp (Wk_seq ?_))
  try rw [gx_nat hx9] at h
  obtain ⟨r6, hr16, h⟩ := Option.bind_eq_some_iff.1 h
  refine Wk_regionH fun Y hY => ?_
  refine RX2_s rfl rfl fun Z hZ => ?_
  simp only [go_sem, seval, hc15]
  repeat with_reducible refine and_bar (by kernel_rfl) ?_
  refine hZ _ ?_
  refine RX2_s rfl rfl fun Z hZ => ?_
  simp only [go_sem, seval]
  refine hZ _ ?_
  refine RX2_s rfl rfl fun Z hZ => ?_
  simp only [go_sem, seval]
  refine hZ _ ?_
  refine RX2_s rfl rfl fun Z hZ => ?_
  simp only [go_sem, seval]
  refine hZ _ ?_
  refine RX2_s rfl rfl fun Z hZ => ?_
  simp only [go_sem, seval, hi8']
  refine hZ _ ?_
  refine RX2_s rfl rfl fun Z hZ => ?_
  simp only [go_sem, seval, hx9]
  refine hZ _ ?_
  refine RX2_s rfl rfl fun Z hZ => ?_
  simp only [go_sem, seval, hr16]
  refine hZ _ ?_
  refine RX2_s rfl rfl fun Z hZ => ?_
  simp only [go_sem, seval]
  refine hZ _ ?_
  refine RX2_s rfl rfl fun Z hZ => ?_
  simp only [go_sem, seval]
  refine hZ _ ?_
  refine RX2_s rfl rfl fun Z hZ => ?_
  simp only [go_sem, seval]
  refine hZ _ ?_
  refine RX2_s rfl rfl fun Z hZ => ?_
  simp only [go_sem, seval]
  refine hZ _ ?_
  refine RX2_w fun Z hZ => ?_
  simp only [go_sem, seval]
  refine hZ _ ?_
  refine RX2_end (by kernel_rfl) (hY _ (pp (Wk_seq ?_)))
  obtain ⟨r7, hr17, h⟩ := Option.bind_eq_some_iff.1 h
  refine Wk_regionZ fun Z hZ => ?_
  simp only [go_sem, seval, hr17]
  refine hZ _ (pp (Wk_cond_nbool rfl (fun hc18 => ?_) (fun hc18 => ?_)))
  · rw [if_neg (ne_true_of_eq_false hc18)] at h
    refine Wk_seq (Wk_regionZ fun Z hZ => ?_)
    simp only [go_sem, seval, hc18]
    refine hZ _ (pp (Wk_ret (pp ?_)))
    cases h
    simp only [go_sem, seval]
    exact ⟨_, rfl, RokI.h, PureI.h⟩
  rw [if_pos hc18] at h
  refine Wk_skip (pp (Wk_regionZ fun Z hZ => ?_))
  simp only [go_sem, seval, hw10, hc18]
  refine hZ _ (pp ?_)
  first | refine ⟨(r6.1.Name, r6.1.Next, r6.1.Open, IntKind.i64.wrap (v10 + (IntKind.i64.wrap (Int.tmod x14.After 6)))), ?_, h⟩ | refine ⟨hi8', (r6.1.Name, r6.1.Next, r6.1.Open, IntKind.i64.wrap (v10 + (IntKind.i64.wrap (Int.tmod x14.After 6)))), ?_, h⟩
  refine weak_roots ?_ ?_ <;> repeat' first | exact xn | exact rn | refine xc ?_ ?_ | refine rc ?_ ?_ ?_ | rfl
def fs_law34_SessionSequences (N : Nat) : FnS := ⟨[], true, fn1 (decL 3 actorgridlaw34_Act.dec) fun q0 => (law34_SessionSequences N q0).map fun r => .val (.bool r), false⟩
attribute [go_sem] fs_law34_SessionSequences
theorem fs_law34_SessionSequences_ok (N : Nat) : FSOk Try.prog 4 (fs_law34_SessionSequences N) := ok1 (fun q0 r h => by
  obtain ⟨r', hr, rfl⟩ := Option.map_eq_some_iff.1 h
  exact w_law34_SessionSequences N q0 r' hr) (fun h => decL_le actorgridlaw34_Act.dec_le h)

end Go.Proofs.Ythgcdhclommkcaa
