/- Walks: each function computes its model. No condition. -/
import Derived.Test.YthgcdhclommkcaaB
/- Each Go function computes its model: proofs laid by a program of ours. -/
set_option maxHeartbeats 40000000
set_option synthInstance.maxHeartbeats 2000000
set_option synthInstance.maxSize 4000
set_option linter.unusedSimpArgs false
set_option linter.unusedVariables false
set_option maxRecDepth 100000
namespace Go.Proofs.Ythgcdhclommkcaa
open Go Go.Proofs Go.Abs
theorem w_session_validName (N : Nat) (a0 : ByteArray) (r : Bool) (h : session_validName N a0 = some r) : Con Try.prog 23 [] true [.val (.string a0)] (.val (.bool r)) := by
  refine fun_ok4 (G := (glist [])) Try.func23 rfl (by decide) (by kernel_rfl) gn [] mix (Nat.le_of_ble_eq_true rfl) ?_
  simp only [Try.f23]
  unfold session_validName at h
  refine Wk_seq (Wk_regionZ fun Z hZ => ?_)
  simp only [go_sem, seval]
  refine hZ _ (pp (Wk_seq (Wk_regionZ fun Z hZ => ?_)))
  simp only [go_sem, seval]
  refine RX_guard_dec rfl (fun hc1 => ?_) (fun hc1 => ?_)
  · have hc1d := decide_eq_true hc1
    rw [if_pos hc1] at h
    simp only [go_sem, seval, hc1d]
    refine hZ _ (pp (Wk_ret (pp ?_)))
    cases h
    simp only [go_sem, seval]
    exact ⟨_, rfl, RokI.h, PureI.h⟩
  have hc1d := decide_eq_false hc1
  rw [if_neg hc1] at h
  simp only [go_sem, seval, hc1d]
  refine hZ _ (pp (Wk_ret (pp ?_)))
  cases h
  simp only [go_sem, seval]
  exact ⟨_, rfl, RokI.h, PureI.h⟩
def fs_session_validName (N : Nat) : FnS := ⟨[], true, fn1 decS fun q0 => (session_validName N q0).map fun r => .val (.bool r), false⟩
attribute [go_sem] fs_session_validName
theorem fs_session_validName_ok (N : Nat) : FSOk Try.prog 23 (fs_session_validName N) := ok1 (fun q0 r h => by
  obtain ⟨r', hr, rfl⟩ := Option.map_eq_some_iff.1 h
  exact w_session_validName N q0 r' hr) (decS_le)


noncomputable def G_session_New (N d f : Nat) : Option FnS := glist [(5, 23, fs_session_validName N)] d f
attribute [go_sem] G_session_New
theorem w_session_New (N : Nat) (a0 : ByteArray) (r : Session × Int) (h : session_New N a0 = some r) : Con Try.prog 8 [] true [.val (.string a0)] (.tup [.agg (Session.row r.1), .val (.int .i64 r.2)]) := by
  refine fun_ok4 (G := (G_session_New N)) Try.func8 rfl (by decide) (by kernel_rfl) (gc 5 (fs_session_validName_ok N) gn) [] mix (Nat.le_of_ble_eq_true rfl) ?_
  simp only [Try.f8]
  unfold session_New at h
  refine Wk_seq (Wk_regionZ fun Z hZ => ?_)
  simp only [go_sem, seval]
  refine hZ _ (pp (Wk_seq (Wk_seq ?_)))
  obtain ⟨r1, hr1, h⟩ := Option.bind_eq_some_iff.1 h
  refine Wk_regionZ fun Z hZ => ?_
  simp only [go_sem, seval, hr1]
  refine hZ _ (pp (Wk_cond_nbool rfl (fun hc2 => ?_) (fun hc2 => ?_)))
  · rw [if_neg (ne_true_of_eq_false hc2)] at h
    refine Wk_seq (Wk_regionZ fun Z hZ => ?_)
    simp only [go_sem, seval, hc2]
    refine hZ _ (pp (Wk_ret (pp ?_)))
    cases h
    simp only [go_sem, seval]
    exact ⟨_, rfl, RokI.h, PureI.h⟩
  rw [if_pos hc2] at h
  refine Wk_skip (pp (Wk_seq (Wk_regionZ fun Z hZ => ?_)))
  simp only [go_sem, seval, hc2]
  refine hZ _ (pp (Wk_ret (pp ?_)))
  cases h
  simp only [go_sem, seval]
  exact ⟨_, rfl, RokI.h, PureI.h⟩
def fs_session_New (N : Nat) : FnS := ⟨[], true, fn1 decS fun q0 => (session_New N q0).map fun r => .tup [.agg (Session.row r.1), .val (.int .i64 r.2)], false⟩
attribute [go_sem] fs_session_New
theorem fs_session_New_ok (N : Nat) : FSOk Try.prog 8 (fs_session_New N) := ok1 (fun q0 r h => by
  obtain ⟨r', hr, rfl⟩ := Option.map_eq_some_iff.1 h
  exact w_session_New N q0 r' hr) (decS_le)


theorem w_seat_Int (N : Nat) (a0 : Int) (r : Value) (h : seat_Int N a0 = some r) : Con Try.prog 36 [] true [.val (.int .i64 a0)] (.agg (Value.row r)) := by
  refine fun_ok4 (G := (glist [])) Try.func36 rfl (by decide) (by kernel_rfl) gn [] mix (Nat.le_of_ble_eq_true rfl) ?_
  simp only [Try.f36]
  unfold seat_Int at h
  refine Wk_seq (Wk_regionZ fun Z hZ => ?_)
  simp only [go_sem, seval]
  refine hZ _ (pp (Wk_seq (Wk_regionZ fun Z hZ => ?_)))
  simp only [go_sem, seval]
  refine hZ _ (pp (Wk_ret (pp ?_)))
  cases h
  simp only [go_sem, seval]
  exact ⟨_, rfl, RokI.h, PureI.h⟩
def fs_seat_Int (N : Nat) : FnS := ⟨[], true, fn1 (decI .i64) fun q0 => (seat_Int N q0).map fun r => .agg (Value.row r), false⟩
attribute [go_sem] fs_seat_Int
theorem fs_seat_Int_ok (N : Nat) : FSOk Try.prog 36 (fs_seat_Int N) := ok1 (fun q0 r h => by
  obtain ⟨r', hr, rfl⟩ := Option.map_eq_some_iff.1 h
  exact w_seat_Int N q0 r' hr) (decI_le)


noncomputable def G_law34_call (N d f : Nat) : Option FnS := glist [(2, 36, fs_seat_Int N)] d f
attribute [go_sem] G_law34_call
theorem w_law34_call (N : Nat)  (r : (List ActorCall)) (h : law34_call N  = some r) : Con Try.prog 14 [] false [] (.sl true none 4 none (r.map ActorCall.row)) := by
  refine fun_ok4 (G := (G_law34_call N)) Try.func14 rfl (by decide) (by kernel_rfl) (gc 2 (fs_seat_Int_ok N) gn) [] mix (Nat.le_of_ble_eq_true rfl) ?_
  simp only [Try.f14]
  unfold law34_call at h
  refine Wk_seq (Wk_regionZ fun Z hZ => ?_)
  simp only [go_sem, seval]
  refine hZ _ (pp (Wk_seq ?_))
  obtain ⟨r1, hr1, h⟩ := Option.bind_eq_some_iff.1 h
  refine Wk_regionZ fun Z hZ => ?_
  simp only [go_sem, seval, hr1]
  refine hZ _ (pp (Wk_ret (pp ?_)))
  cases h
  simp only [go_sem, seval]
  exact ⟨_, rfl, RokI.h⟩
def fs_law34_call (N : Nat) : FnS := { own := [], pure := false, fn := fun cs => match cs with
  | [] =>  (law34_call N ).map fun r => .sl false none 4 none (r.map ActorCall.row)
  | _ => none }
attribute [go_sem] fs_law34_call
theorem fs_law34_call_ok (N : Nat) : FSOk Try.prog 14 (fs_law34_call N) := by
  refine ⟨fun cs r h => ?_, fun h => by cases h⟩
  simp only [fs_law34_call] at h
  split at h
  · simp only [Option.map_eq_some_iff] at h
    obtain ⟨r', hr, rfl⟩ := h
    exact (((w_law34_call N  r' hr).args (LeL.nil)).res (by (try simp only [go_sem]); exact RokI.h))
  · cases h

def fso_law34_call (N : Nat) : FnS := { own := [], pure := false, fn := fun cs => match cs with
  | [] =>  (law34_call N ).map fun r => .sl true none 4 none (r.map ActorCall.row)
  | _ => none }
attribute [go_sem] fso_law34_call
theorem fso_law34_call_ok (N : Nat) : FSOk Try.prog 14 (fso_law34_call N) := by
  refine ⟨fun cs r h => ?_, fun h => by cases h⟩
  simp only [fso_law34_call] at h
  split at h
  · simp only [Option.map_eq_some_iff] at h
    obtain ⟨r', hr, rfl⟩ := h
    exact ((w_law34_call N  r' hr).args (LeL.nil))
  · cases h


theorem w_wire_ValidValue (N : Nat) (a0 : Value) (r : Bool) (h : wire_ValidValue N a0 = some r) : Con Try.prog 49 [] true [.agg (Value.row a0)] (.val (.bool r)) := by
  refine fun_ok4 (G := (glist [])) Try.func49 rfl (by decide) (by kernel_rfl) gn [] mix (Nat.le_of_ble_eq_true rfl) ?_
  simp only [Try.f49]
  unfold wire_ValidValue at h
  refine Wk_seq (Wk_regionZ fun Z hZ => ?_)
  simp only [go_sem, seval]
  refine hZ _ (pp (Wk_seq ?_))
  apply Wk_join1 (fun (c3 : Bool) => ⟨tab 86 (updT (updT deadT 1 (.pref 1 [] 0 0)) 12 (.val (.bool c3))), (upd RZ 1 (.sl true none 5 (some 1) [Value.row a0]))⟩)
  · intro hJ1
    refine Wk_regionZ fun Z hZ => ?_
    simp only [go_sem, seval]
    refine RX_guard_dec rfl (fun hc2 => ?_) (fun hc2 => ?_)
    · have hc2d := decide_eq_true hc2
      rw [if_pos hc2] at h
      simp only [go_sem, seval, hc2d]
      refine hZ _ (pp (hJ1 _ true ?_ h))
      refine weak_roots ?_ ?_ <;> repeat' first | exact xn | exact rn | refine xc ?_ ?_ | refine rc ?_ ?_ ?_ | rfl | simp only [go_sem, seval, Bool.or_self, List.length_set, Int.natCast_zero, Int.cast_ofNat_Int, hc2d]
    have hc2d := decide_eq_false hc2
    rw [if_neg hc2] at h
    simp only [go_sem, seval, hc2d]
    refine hZ _ (pp (hJ1 _ (decide (5 < a0.Kind)) ?_ h))
    refine weak_roots ?_ ?_ <;> repeat' first | exact xn | exact rn | refine xc ?_ ?_ | refine rc ?_ ?_ ?_ | rfl | simp only [go_sem, seval, Bool.or_self, List.length_set, Int.natCast_zero, Int.cast_ofNat_Int, hc2d]
  intro c3 h
  unfold wire_ValidValue_J1 at h
  refine Wk_cond_bool rfl (fun hc3 => ?_) (fun hc3 => ?_)
  · rw [if_pos hc3] at h
    refine Wk_seq (Wk_regionZ fun Z hZ => ?_)
    simp only [go_sem, seval, hc3]
    refine hZ _ (pp (Wk_ret (pp ?_)))
    cases h
    simp only [go_sem, seval]
    exact ⟨_, rfl, RokI.h, PureI.h⟩
  rw [if_neg (ne_true_of_eq_false hc3)] at h
  refine Wk_skip (pp ?_)
  unfold wire_ValidValue_J9 at h
  refine Wk_seq (Wk_block ?_)
  apply Wk_join1 (fun (c12 : Bool) => ⟨tab 86 (updT (updT deadT 1 (.pref 1 [] 0 0)) 13 (.val (.bool c12))), (upd RZ 1 (.sl true none 5 (some 1) [Value.row a0]))⟩)
  · intro hJ4
    refine Wk_regionZ fun Z hZ => ?_
    simp only [go_sem, seval, hc3]
    refine sw (RX_guard_ndec rfl) (fun hc5 => ?_) (fun hc5 => ?_)
    · have hc5d := decide_eq_true hc5
      rw [if_pos hc5] at h
      simp only [go_sem, seval, hc5d]
      refine hZ _ (pp (hJ4 _ false ?_ h))
      refine weak_roots ?_ ?_ <;> repeat' first | exact xn | exact rn | refine xc ?_ ?_ | refine rc ?_ ?_ ?_ | rfl | simp only [go_sem, seval, Bool.or_self, List.length_set, Int.natCast_zero, Int.cast_ofNat_Int, hc3, hc5d]
    have hc5d := decide_eq_false hc5
    rw [if_neg hc5] at h
    simp only [go_sem, seval, hc5d]
    refine sw (RX_guard_ndec rfl) (fun hc6 => ?_) (fun hc6 => ?_)
    · have hc6d := decide_eq_true hc6
      rw [if_pos hc6] at h
      simp only [go_sem, seval, hc6d]
      refine hZ _ (pp (hJ4 _ false ?_ h))
      refine weak_roots ?_ ?_ <;> repeat' first | exact xn | exact rn | refine xc ?_ ?_ | refine rc ?_ ?_ ?_ | rfl | simp only [go_sem, seval, Bool.or_self, List.length_set, Int.natCast_zero, Int.cast_ofNat_Int, hc3, hc5d, hc6d]
    have hc6d := decide_eq_false hc6
    rw [if_neg hc6] at h
    simp only [go_sem, seval, hc6d]
    refine RX_guard_ndec rfl (fun hc7 => ?_) (fun hc7 => ?_)
    · have hc7d := decide_eq_false hc7
      rw [if_neg hc7] at h
      simp only [go_sem, seval, hc7d]
      refine hZ _ (pp (hJ4 _ true ?_ h))
      refine weak_roots ?_ ?_ <;> repeat' first | exact xn | exact rn | refine xc ?_ ?_ | refine rc ?_ ?_ ?_ | rfl | simp only [go_sem, seval, Bool.or_self, List.length_set, Int.natCast_zero, Int.cast_ofNat_Int, hc3, hc5d, hc6d, hc7d]
    have hc7d := decide_eq_true hc7
    rw [if_pos hc7] at h
    simp only [go_sem, seval, hc7d]
    refine hZ _ (pp (hJ4 _ (!decide (a0.N = 1)) ?_ h))
    refine weak_roots ?_ ?_ <;> repeat' first | exact xn | exact rn | refine xc ?_ ?_ | refine rc ?_ ?_ ?_ | rfl | simp only [go_sem, seval, Bool.or_self, List.length_set, Int.natCast_zero, Int.cast_ofNat_Int, hc3, hc5d, hc6d, hc7d]
  intro c12 h
  unfold wire_ValidValue_J5 at h
  refine Wk_cond_bool rfl (fun hc8 => ?_) (fun hc8 => ?_)
  · rw [if_pos hc8] at h
    refine Wk_seq (Wk_regionZ fun Z hZ => ?_)
    simp only [go_sem, seval, hc8]
    refine hZ _ (pp (Wk_ret (pp ?_)))
    cases h
    simp only [go_sem, seval]
    exact ⟨_, rfl, RokI.h, PureI.h⟩
  rw [if_neg (ne_true_of_eq_false hc8)] at h
  apply Wk_join1 (fun (c17 : Bool) => ⟨tab 86 (updT (updT deadT 1 (.pref 1 [] 0 0)) 32 (.val (.bool c17))), (upd RZ 1 (.sl true none 5 (some 1) [Value.row a0]))⟩)
  · intro hJ9
    apply Wk_join1 (fun (c18 : Bool) => ⟨tab 86 (updT (updT deadT 1 (.pref 1 [] 0 0)) 32 (.val (.bool c18))), (upd RZ 1 (.sl true none 5 (some 1) [Value.row a0]))⟩)
    · intro hJ10
      refine Wk_regionZ fun Z hZ => ?_
      simp only [go_sem, seval, hc8]
      refine RX_guard_nbool rfl (fun hc11 => ?_) (fun hc11 => ?_)
      · rw [if_neg (ne_true_of_eq_false hc11)] at h
        simp only [go_sem, seval, hc11]
        refine hZ _ (pp (hJ10 _ (!decide (a0.Kind = 3)) ?_ h))
        refine weak_roots ?_ ?_ <;> repeat' first | exact xn | exact rn | refine xc ?_ ?_ | refine rc ?_ ?_ ?_ | rfl | simp only [go_sem, seval, Bool.or_self, List.length_set, Int.natCast_zero, Int.cast_ofNat_Int, hc3, hc8, hc11]
      rw [if_pos hc11] at h
      simp only [go_sem, seval, hc11]
      refine hZ _ (pp (hJ10 _ false ?_ h))
      refine weak_roots ?_ ?_ <;> repeat' first | exact xn | exact rn | refine xc ?_ ?_ | refine rc ?_ ?_ ?_ | rfl | simp only [go_sem, seval, Bool.or_self, List.length_set, Int.natCast_zero, Int.cast_ofNat_Int, hc3, hc8, hc11]
    intro c18 h
    unfold wire_ValidValue_J3 at h
    refine Wk_cond_bool rfl (fun hc12 => ?_) (fun hc12 => ?_)
    · rw [if_pos hc12] at h
      refine Wk_skip (pp (hJ9 _ true ?_ h))
      refine weak_roots ?_ ?_ <;> repeat' first | exact xn | exact rn | refine xc ?_ ?_ | refine rc ?_ ?_ ?_ | rfl | simp only [go_sem, seval, hc12]
    rw [if_neg (ne_true_of_eq_false hc12)] at h
    apply Wk_join1 (fun (c19 : Bool) => ⟨tab 86 (updT (updT deadT 1 (.pref 1 [] 0 0)) 32 (.val (.bool c19))), (upd RZ 1 (.sl true none 5 (some 1) [Value.row a0]))⟩)
    · intro hJ13
      refine Wk_regionZ fun Z hZ => ?_
      simp only [go_sem, seval, hc12]
      refine RX_guard_dec rfl (fun hc14 => ?_) (fun hc14 => ?_)
      · have hc14d := decide_eq_true hc14
        rw [if_pos hc14] at h
        simp only [go_sem, seval, hc14d]
        refine hZ _ (pp (hJ13 _ (!decide (a0.Kind = 4)) ?_ h))
        refine weak_roots ?_ ?_ <;> repeat' first | exact xn | exact rn | refine xc ?_ ?_ | refine rc ?_ ?_ ?_ | rfl | simp only [go_sem, seval, Bool.or_self, List.length_set, Int.natCast_zero, Int.cast_ofNat_Int, hc3, hc8, hc12, hc14d]
      have hc14d := decide_eq_false hc14
      rw [if_neg hc14] at h
      simp only [go_sem, seval, hc14d]
      refine hZ _ (pp (hJ13 _ false ?_ h))
      refine weak_roots ?_ ?_ <;> repeat' first | exact xn | exact rn | refine xc ?_ ?_ | refine rc ?_ ?_ ?_ | rfl | simp only [go_sem, seval, Bool.or_self, List.length_set, Int.natCast_zero, Int.cast_ofNat_Int, hc3, hc8, hc12, hc14d]
    intro c19 h
    unfold wire_ValidValue_J2 at h
    refine Wk_cond_bool rfl (fun hc15 => ?_) (fun hc15 => ?_)
    · rw [if_pos hc15] at h
      refine Wk_skip (pp (hJ9 _ true ?_ h))
      refine weak_roots ?_ ?_ <;> repeat' first | exact xn | exact rn | refine xc ?_ ?_ | refine rc ?_ ?_ ?_ | rfl | simp only [go_sem, seval, hc15]
    rw [if_neg (ne_true_of_eq_false hc15)] at h
    refine Wk_regionZ fun Z hZ => ?_
    simp only [go_sem, seval, hc15]
    refine RX_guard_dec rfl (fun hc16 => ?_) (fun hc16 => ?_)
    · have hc16d := decide_eq_true hc16
      rw [if_pos hc16] at h
      simp only [go_sem, seval, hc16d]
      refine hZ _ (pp (hJ9 _ (!decide (a0.Kind = 5)) ?_ h))
      refine weak_roots ?_ ?_ <;> repeat' first | exact xn | exact rn | refine xc ?_ ?_ | refine rc ?_ ?_ ?_ | rfl | simp only [go_sem, seval, Bool.or_self, List.length_set, Int.natCast_zero, Int.cast_ofNat_Int, hc3, hc8, hc12, hc15, hc16d]
    have hc16d := decide_eq_false hc16
    rw [if_neg hc16] at h
    simp only [go_sem, seval, hc16d]
    refine hZ _ (pp (hJ9 _ false ?_ h))
    refine weak_roots ?_ ?_ <;> repeat' first | exact xn | exact rn | refine xc ?_ ?_ | refine rc ?_ ?_ ?_ | rfl | simp only [go_sem, seval, Bool.or_self, List.length_set, Int.natCast_zero, Int.cast_ofNat_Int, hc3, hc8, hc12, hc15, hc16d]
  intro c17 h
  unfold wire_ValidValue_J4 at h
  refine Wk_cond_bool rfl (fun hc17 => ?_) (fun hc17 => ?_)
  · rw [if_pos hc17] at h
    refine Wk_seq (Wk_regionZ fun Z hZ => ?_)
    simp only [go_sem, seval, hc17]
    refine hZ _ (pp (Wk_ret (pp ?_)))
    cases h
    simp only [go_sem, seval]
    exact ⟨_, rfl, RokI.h, PureI.h⟩
  rw [if_neg (ne_true_of_eq_false hc17)] at h
  refine Wk_skip (pp ?_)
  unfold wire_ValidValue_J8 at h
  refine Wk_seq ?_
  apply Wk_join1 (fun (c22 : Bool) => ⟨tab 86 (updT (updT deadT 1 (.pref 1 [] 0 0)) 74 (.val (.bool c22))), (upd RZ 1 (.sl true none 5 (some 1) [Value.row a0]))⟩)
  · intro hJ18
    refine Wk_regionZ fun Z hZ => ?_
    simp only [go_sem, seval, hc17]
    refine RX_guard_dec rfl (fun hc19 => ?_) (fun hc19 => ?_)
    · have hc19d := decide_eq_true hc19
      rw [if_pos hc19] at h
      simp only [go_sem, seval, hc19d]
      refine hZ _ (pp (hJ18 _ true ?_ h))
      refine weak_roots ?_ ?_ <;> repeat' first | exact xn | exact rn | refine xc ?_ ?_ | refine rc ?_ ?_ ?_ | rfl | simp only [go_sem, seval, Bool.or_self, List.length_set, Int.natCast_zero, Int.cast_ofNat_Int, hc3, hc8, hc17, hc19d]
    have hc19d := decide_eq_false hc19
    rw [if_neg hc19] at h
    simp only [go_sem, seval, hc19d]
    refine RX_guard_dec rfl (fun hc20 => ?_) (fun hc20 => ?_)
    · have hc20d := decide_eq_true hc20
      rw [if_pos hc20] at h
      simp only [go_sem, seval, hc20d]
      refine hZ _ (pp (hJ18 _ true ?_ h))
      refine weak_roots ?_ ?_ <;> repeat' first | exact xn | exact rn | refine xc ?_ ?_ | refine rc ?_ ?_ ?_ | rfl | simp only [go_sem, seval, Bool.or_self, List.length_set, Int.natCast_zero, Int.cast_ofNat_Int, hc3, hc8, hc17, hc19d, hc20d]
    have hc20d := decide_eq_false hc20
    rw [if_neg hc20] at h
    simp only [go_sem, seval, hc20d]
    refine hZ _ (pp (hJ18 _ (decide (16 < ((a0.L.length : Nat) : Int))) ?_ h))
    refine weak_roots ?_ ?_ <;> repeat' first | exact xn | exact rn | refine xc ?_ ?_ | refine rc ?_ ?_ ?_ | rfl | simp only [go_sem, seval, Bool.or_self, List.length_set, Int.natCast_zero, Int.cast_ofNat_Int, hc3, hc8, hc17, hc19d, hc20d]
  intro c22 h
  unfold wire_ValidValue_J6 at h
  refine Wk_cond_bool rfl (fun hc21 => ?_) (fun hc21 => ?_)
  · rw [if_pos hc21] at h
    refine Wk_seq (Wk_regionZ fun Z hZ => ?_)
    simp only [go_sem, seval, hc21]
    refine hZ _ (pp (Wk_ret (pp ?_)))
    cases h
    simp only [go_sem, seval]
    exact ⟨_, rfl, RokI.h, PureI.h⟩
  rw [if_neg (ne_true_of_eq_false hc21)] at h
  refine Wk_skip (pp ?_)
  unfold wire_ValidValue_J7 at h
  refine Wk_seq (Wk_seq (Wk_regionZ fun Z hZ => ?_))
  simp only [go_sem, seval, hc21]
  refine hZ _ (pp (Wk_block (Wk_real fun hreal23 => ?_)))
  have hl22 := hreal23.lenT 76 (by decide) (by simp only [go_sem, seval]; rfl)
  rw [List.length_map] at hl22
  refine Wk_range (fun (v17 : Nat) (b : Unit) => ⟨tab 86 (updT (updT (updT deadT 76 (.sl false none 1 none (a0.L.map rowS))) 77 (.val (.int .i64 ((a0.L.length : Nat) : Int)))) 78 (.val (.int .i64 ((v17 : Nat) : Int)))), RZ⟩) () h ?_ ?_
  · refine weak_roots ?_ ?_ <;> repeat' first | exact xn | exact rn | refine xc ?_ ?_ | refine rc ?_ ?_ ?_ | rfl | simp only [go_sem, seval, Bool.or_self, List.length_set, Int.natCast_zero, Int.cast_ofNat_Int, hc3, hc8, hc17, hc21]
  rintro v17 ⟨⟩ hi24 h -
  rcases (drop_cases a0.L v17 hi24).symm with ⟨hi24', _, hd27⟩ | ⟨x20, hi24', hx25, hd27⟩
  · rw [hd27] at h
    simp only [wire_ValidValue_L1] at h
    refine Wk_seq (Wk_regionZ fun Z hZ => ?_)
    simp only [go_sem, seval, hi24']
    refine hZ _ (pp (Wk_seq ?_))
    try simp only [Int.ofNat_lt, hi24', if_true, if_false] at h
    refine Wk_cond_f rfl (Wk_exit (pp (Wk_seq (Wk_regionZ fun Z hZ => ?_))))
    simp only [go_sem, seval]
    refine hZ _ (pp (Wk_ret (pp ?_)))
    cases h
    simp only [go_sem, seval]
    exact ⟨_, rfl, RokI.h, PureI.h⟩
  rw [hd27] at h
  simp only [wire_ValidValue_L1] at h
  have hw26 := wrap_succ hi24' hl22
  refine Wk_seq (Wk_regionZ fun Z hZ => ?_)
  simp only [go_sem, seval, hi24']
  refine hZ _ (pp (Wk_seq ?_))
  try simp only [Int.ofNat_lt, hi24', if_true, if_false] at h
  refine Wk_cond_t rfl (Wk_skip (pp (Wk_seq (Wk_block (Wk_seq ?_)))))
  try rw [gx_nat hx25] at h
  refine Wk_regionZ fun Z hZ => ?_
  simp only [go_sem, seval, hx25, hi24']
  refine hZ _ (pp (Wk_seq (Wk_regionZ fun Z hZ => ?_)))
  simp only [go_sem, seval]
  refine hZ _ (pp (Wk_cond_dec rfl (fun hc28 => ?_) (fun hc28 => ?_)))
  · have hc28d := decide_eq_true hc28
    rw [if_pos hc28] at h
    refine Wk_seq (Wk_regionZ fun Z hZ => ?_)
    simp only [go_sem, seval, hc28d]
    refine hZ _ (pp (Wk_ret (pp ?_)))
    cases h
    simp only [go_sem, seval]
    exact ⟨_, rfl, RokI.h, PureI.h⟩
  have hc28d := decide_eq_false hc28
  rw [if_neg hc28] at h
  refine Wk_skip (pp (Wk_regionZ fun Z hZ => ?_))
  simp only [go_sem, seval, hw26, hc28d]
  refine hZ _ (pp ?_)
  first | refine ⟨(), ?_, h⟩ | refine ⟨hi24', (), ?_, h⟩
  refine weak_roots ?_ ?_ <;> repeat' first | exact xn | exact rn | refine xc ?_ ?_ | refine rc ?_ ?_ ?_ | rfl | simp only [go_sem, seval, Bool.or_self, List.length_set, Int.natCast_zero, Int.cast_ofNat_Int, hc3, hc8, hc17, hc21, hx25, hi24', hw26, hc28d]
def fs_wire_ValidValue (N : Nat) : FnS := ⟨[], true, fn1 Value.decA fun q0 => (wire_ValidValue N q0).map fun r => .val (.bool r), false⟩
attribute [go_sem] fs_wire_ValidValue
theorem fs_wire_ValidValue_ok (N : Nat) : FSOk Try.prog 49 (fs_wire_ValidValue N) := ok1 (fun q0 r h => by
  obtain ⟨r', hr, rfl⟩ := Option.map_eq_some_iff.1 h
  exact w_wire_ValidValue N q0 r' hr) (Value.decA_le)


noncomputable def G_txn_ValidCall_1 (N d f : Nat) : Option FnS := glist [(8, 49, fs_wire_ValidValue N)] d f
attribute [go_sem] G_txn_ValidCall_1
theorem w_txn_ValidCall_1 (N : Nat) (a0 : Value) (r : Bool) (h : txn_ValidCall_1 N a0 = some r) : Con Try.prog 48 [] true [.agg (Value.row a0)] (.val (.bool r)) := by
  refine fun_ok4 (G := (G_txn_ValidCall_1 N)) Try.func48 rfl (by decide) (by kernel_rfl) (gc 8 (fs_wire_ValidValue_ok N) gn) [] mix (Nat.le_of_ble_eq_true rfl) ?_
  simp only [Try.f48]
  unfold txn_ValidCall_1 at h
  refine Wk_seq (Wk_regionZ fun Z hZ => ?_)
  simp only [go_sem, seval]
  refine hZ _ (pp (Wk_seq (Wk_regionZ fun Z hZ => ?_)))
  simp only [go_sem, seval]
  refine RX_guard_dec rfl (fun hc1 => ?_) (fun hc1 => ?_)
  · have hc1d := decide_eq_true hc1
    rw [if_pos hc1] at h
    simp only [go_sem, seval, hc1d]
    refine hZ _ (pp (Wk_ret (pp ?_)))
    cases h
    simp only [go_sem, seval]
    exact ⟨_, rfl, RokI.h, PureI.h⟩
  have hc1d := decide_eq_false hc1
  rw [if_neg hc1] at h
  obtain ⟨r1, hr2, h⟩ := Option.bind_eq_some_iff.1 h
  simp only [go_sem, seval, hc1d, hr2]
  refine hZ _ (pp (Wk_ret (pp ?_)))
  cases h
  simp only [go_sem, seval]
  exact ⟨_, rfl, RokI.h, PureI.h⟩
def fs_txn_ValidCall_1 (N : Nat) : FnS := ⟨[], true, fn1 Value.decA fun q0 => (txn_ValidCall_1 N q0).map fun r => .val (.bool r), false⟩
attribute [go_sem] fs_txn_ValidCall_1
theorem fs_txn_ValidCall_1_ok (N : Nat) : FSOk Try.prog 48 (fs_txn_ValidCall_1 N) := ok1 (fun q0 r h => by
  obtain ⟨r', hr, rfl⟩ := Option.map_eq_some_iff.1 h
  exact w_txn_ValidCall_1 N q0 r' hr) (Value.decA_le)


noncomputable def G_slices_IndexFunc_Value_txn_ValidCall_1 (N d f : Nat) : Option FnS := glist [(16, 48, fs_txn_ValidCall_1 N)] d f
attribute [go_sem] G_slices_IndexFunc_Value_txn_ValidCall_1
theorem w_slices_IndexFunc_Value_txn_ValidCall_1 (N : Nat) (a0 : (List Value)) (r : Int) (h : slices_IndexFunc_Value_txn_ValidCall_1 N a0 = some r) : Con Try.prog 62 [] true [.sl false none 5 none (a0.map Value.row), .clo 48 []] (.val (.int .i64 r)) := by
  refine fun_ok4 (G := (G_slices_IndexFunc_Value_txn_ValidCall_1 N)) Try.func62 rfl (by decide) (by kernel_rfl) (gc 16 (fs_txn_ValidCall_1_ok N) gn) [] mix (Nat.le_of_ble_eq_true rfl) ?_
  simp only [Try.f62]
  unfold slices_IndexFunc_Value_txn_ValidCall_1 at h
  refine Wk_seq (Wk_regionZ fun Z hZ => ?_)
  simp only [go_sem, seval]
  refine hZ _ (pp (Wk_seq (Wk_seq (Wk_regionZ fun Z hZ => ?_))))
  simp only [go_sem, seval]
  refine hZ _ (pp (Wk_block (Wk_real fun hreal2 => ?_)))
  have hl1 := hreal2.lenT 0 (by decide) (by simp only [go_sem, seval]; rfl)
  rw [List.length_map] at hl1
  refine Wk_range (fun (v2 : Nat) (b : Unit) => ⟨tab 19 (updT (updT (updT (updT deadT 0 (.sl false none 5 none (a0.map Value.row))) 1 (.clo 48 [])) 7 (.val (.int .i64 ((a0.length : Nat) : Int)))) 8 (.val (.int .i64 ((v2 : Nat) : Int)))), RZ⟩) () h ?_ ?_
  · refine weak_roots ?_ ?_ <;> repeat' first | exact xn | exact rn | refine xc ?_ ?_ | refine rc ?_ ?_ ?_ | rfl
  rintro v2 ⟨⟩ hi3 h -
  rcases (drop_cases a0 v2 hi3).symm with ⟨hi3', _, hd6⟩ | ⟨x5, hi3', hx4, hd6⟩
  · rw [hd6] at h
    simp only [slices_IndexFunc_Value_txn_ValidCall_1_L1] at h
    refine Wk_seq (Wk_regionZ fun Z hZ => ?_)
    simp only [go_sem, seval, hi3']
    refine hZ _ (pp (Wk_seq ?_))
    try simp only [Int.ofNat_lt, hi3', if_true, if_false] at h
    refine Wk_cond_f rfl (Wk_exit (pp (Wk_seq (Wk_regionZ fun Z hZ => ?_))))
    simp only [go_sem, seval]
    refine hZ _ (pp (Wk_ret (pp ?_)))
    cases h
    simp only [go_sem, seval]
    exact ⟨_, rfl, RokI.h, PureI.h⟩
  rw [hd6] at h
  simp only [slices_IndexFunc_Value_txn_ValidCall_1_L1] at h
  have hw5 := wrap_succ hi3' hl1
  refine Wk_seq (Wk_regionZ fun Z hZ => ?_)
  simp only [go_sem, seval, hi3']
  refine hZ _ (pp (Wk_seq ?_))
  try simp only [Int.ofNat_lt, hi3', if_true, if_false] at h
  refine Wk_cond_t rfl (Wk_skip (pp (Wk_seq (Wk_block (Wk_seq (Wk_regionZ fun Z hZ => ?_))))))
  simp only [go_sem, seval]
  refine hZ _ (pp (Wk_seq ?_))
  try rw [gx_nat hx4] at h
  obtain ⟨r1, hr7, h⟩ := Option.bind_eq_some_iff.1 h
  refine Wk_regionZ fun Z hZ => ?_
  simp only [go_sem, seval, hx4, hi3', hr7]
  refine hZ _ (pp (Wk_cond_bool rfl (fun hc8 => ?_) (fun hc8 => ?_)))
  · rw [if_pos hc8] at h
    refine Wk_seq (Wk_regionZ fun Z hZ => ?_)
    simp only [go_sem, seval, hc8]
    refine hZ _ (pp (Wk_ret (pp ?_)))
    cases h
    simp only [go_sem, seval]
    exact ⟨_, rfl, RokI.h, PureI.h⟩
  rw [if_neg (ne_true_of_eq_false hc8)] at h
  refine Wk_skip (pp (Wk_regionZ fun Z hZ => ?_))
  simp only [go_sem, seval, hw5, hc8]
  refine hZ _ (pp ?_)
  first | refine ⟨(), ?_, h⟩ | refine ⟨hi3', (), ?_, h⟩
  refine weak_roots ?_ ?_ <;> repeat' first | exact xn | exact rn | refine xc ?_ ?_ | refine rc ?_ ?_ ?_ | rfl
def fs_slices_IndexFunc_Value_txn_ValidCall_1 (N : Nat) : FnS := { own := [], pure := true, fn := fun cs => match cs with
  | [c0, .clo 48 []] => ((decL 5 Value.dec) c0).bind fun qc0 => (slices_IndexFunc_Value_txn_ValidCall_1 N qc0).map fun r => .val (.int .i64 r)
  | _ => none }
attribute [go_sem] fs_slices_IndexFunc_Value_txn_ValidCall_1
theorem fs_slices_IndexFunc_Value_txn_ValidCall_1_ok (N : Nat) : FSOk Try.prog 62 (fs_slices_IndexFunc_Value_txn_ValidCall_1 N) := by
  refine ⟨fun cs r h => ?_, fun h => by cases h⟩
  simp only [fs_slices_IndexFunc_Value_txn_ValidCall_1] at h
  split at h
  · simp only [Option.bind_eq_some_iff, Option.map_eq_some_iff] at h
    obtain ⟨q0, h0, r', hr, rfl⟩ := h
    exact ((w_slices_IndexFunc_Value_txn_ValidCall_1 N q0 r' hr).args (LeL.cons (decL_le Value.dec_le h0) (LeL.cons (Le.clo (LeL.nil)) (LeL.nil))))
  · cases h


noncomputable def G_slices_ContainsFunc_Value_txn_ValidCall_1 (N d f : Nat) : Option FnS := glist [(7, 62, fs_slices_IndexFunc_Value_txn_ValidCall_1 N)] d f
attribute [go_sem] G_slices_ContainsFunc_Value_txn_ValidCall_1
theorem w_slices_ContainsFunc_Value_txn_ValidCall_1 (N : Nat) (a0 : (List Value)) (r : Bool) (h : slices_ContainsFunc_Value_txn_ValidCall_1 N a0 = some r) : Con Try.prog 47 [] true [.sl false none 5 none (a0.map Value.row), .clo 48 []] (.val (.bool r)) := by
  refine fun_ok4 (G := (G_slices_ContainsFunc_Value_txn_ValidCall_1 N)) Try.func47 rfl (by decide) (by kernel_rfl) (gc 7 (fs_slices_IndexFunc_Value_txn_ValidCall_1_ok N) gn) [] mix (Nat.le_of_ble_eq_true rfl) ?_
  simp only [Try.f47]
  unfold slices_ContainsFunc_Value_txn_ValidCall_1 at h
  refine Wk_seq (Wk_regionZ fun Z hZ => ?_)
  simp only [go_sem, seval]
  refine hZ _ (pp (Wk_seq ?_))
  obtain ⟨r1, hr1, h⟩ := Option.bind_eq_some_iff.1 h
  refine Wk_regionZ fun Z hZ => ?_
  simp only [go_sem, seval, hr1]
  refine hZ _ (pp (Wk_ret (pp ?_)))
  cases h
  simp only [go_sem, seval]
  exact ⟨_, rfl, RokI.h, PureI.h⟩
def fs_slices_ContainsFunc_Value_txn_ValidCall_1 (N : Nat) : FnS := { own := [], pure := true, fn := fun cs => match cs with
  | [c0, .clo 48 []] => ((decL 5 Value.dec) c0).bind fun qc0 => (slices_ContainsFunc_Value_txn_ValidCall_1 N qc0).map fun r => .val (.bool r)
  | _ => none }
attribute [go_sem] fs_slices_ContainsFunc_Value_txn_ValidCall_1
theorem fs_slices_ContainsFunc_Value_txn_ValidCall_1_ok (N : Nat) : FSOk Try.prog 47 (fs_slices_ContainsFunc_Value_txn_ValidCall_1 N) := by
  refine ⟨fun cs r h => ?_, fun h => by cases h⟩
  simp only [fs_slices_ContainsFunc_Value_txn_ValidCall_1] at h
  split at h
  · simp only [Option.bind_eq_some_iff, Option.map_eq_some_iff] at h
    obtain ⟨q0, h0, r', hr, rfl⟩ := h
    exact ((w_slices_ContainsFunc_Value_txn_ValidCall_1 N q0 r' hr).args (LeL.cons (decL_le Value.dec_le h0) (LeL.cons (Le.clo (LeL.nil)) (LeL.nil))))
  · cases h


noncomputable def G_txn_ValidCall (N d f : Nat) : Option FnS := glist [(42, 47, fs_slices_ContainsFunc_Value_txn_ValidCall_1 N)] d f
attribute [go_sem] G_txn_ValidCall
theorem w_txn_ValidCall (N : Nat) (a0 : ActorCall) (r : Bool) (h : txn_ValidCall N a0 = some r) : Con Try.prog 28 [] true [.agg (ActorCall.row a0)] (.val (.bool r)) := by
  refine fun_ok4 (G := (G_txn_ValidCall N)) Try.func28 rfl (by decide) (by kernel_rfl) (gc 42 (fs_slices_ContainsFunc_Value_txn_ValidCall_1_ok N) gn) [] mix (Nat.le_of_ble_eq_true rfl) ?_
  simp only [Try.f28]
  unfold txn_ValidCall at h
  refine Wk_seq (Wk_regionZ fun Z hZ => ?_)
  simp only [go_sem, seval]
  refine hZ _ (pp (Wk_seq ?_))
  apply Wk_join1 (fun (c3 : Bool) => ⟨tab 44 (updT (updT deadT 1 (.pref 1 [] 0 0)) 39 (.val (.bool c3))), (upd RZ 1 (.sl true none 4 (some 1) [ActorCall.row a0]))⟩)
  · intro hJ1
    refine Wk_regionZ fun Z hZ => ?_
    simp only [go_sem, seval]
    refine RX_guard_dec rfl (fun hc2 => ?_) (fun hc2 => ?_)
    · have hc2d := decide_eq_true hc2
      rw [if_pos hc2] at h
      simp only [go_sem, seval, hc2d]
      refine hZ _ (pp (hJ1 _ true ?_ h))
      refine weak_roots ?_ ?_ <;> repeat' first | exact xn | exact rn | refine xc ?_ ?_ | refine rc ?_ ?_ ?_ | rfl
    have hc2d := decide_eq_false hc2
    rw [if_neg hc2] at h
    simp only [go_sem, seval, hc2d]
    refine RX_guard_dec rfl (fun hc3 => ?_) (fun hc3 => ?_)
    · have hc3d := decide_eq_true hc3
      rw [if_pos hc3] at h
      simp only [go_sem, seval, hc3d]
      refine hZ _ (pp (hJ1 _ true ?_ h))
      refine weak_roots ?_ ?_ <;> repeat' first | exact xn | exact rn | refine xc ?_ ?_ | refine rc ?_ ?_ ?_ | rfl
    have hc3d := decide_eq_false hc3
    rw [if_neg hc3] at h
    simp only [go_sem, seval, hc3d]
    refine RX_guard_dec rfl (fun hc4 => ?_) (fun hc4 => ?_)
    · have hc4d := decide_eq_true hc4
      rw [if_pos hc4] at h
      simp only [go_sem, seval, hc4d]
      refine hZ _ (pp (hJ1 _ true ?_ h))
      refine weak_roots ?_ ?_ <;> repeat' first | exact xn | exact rn | refine xc ?_ ?_ | refine rc ?_ ?_ ?_ | rfl
    have hc4d := decide_eq_false hc4
    rw [if_neg hc4] at h
    simp only [go_sem, seval, hc4d]
    refine RX_guard_dec rfl (fun hc5 => ?_) (fun hc5 => ?_)
    · have hc5d := decide_eq_true hc5
      rw [if_pos hc5] at h
      simp only [go_sem, seval, hc5d]
      refine hZ _ (pp (hJ1 _ true ?_ h))
      refine weak_roots ?_ ?_ <;> repeat' first | exact xn | exact rn | refine xc ?_ ?_ | refine rc ?_ ?_ ?_ | rfl
    have hc5d := decide_eq_false hc5
    rw [if_neg hc5] at h
    simp only [go_sem, seval, hc5d]
    refine RX_guard_dec rfl (fun hc6 => ?_) (fun hc6 => ?_)
    · have hc6d := decide_eq_true hc6
      rw [if_pos hc6] at h
      simp only [go_sem, seval, hc6d]
      refine hZ _ (pp (hJ1 _ true ?_ h))
      refine weak_roots ?_ ?_ <;> repeat' first | exact xn | exact rn | refine xc ?_ ?_ | refine rc ?_ ?_ ?_ | rfl
    have hc6d := decide_eq_false hc6
    rw [if_neg hc6] at h
    simp only [go_sem, seval, hc6d]
    refine hZ _ (pp (hJ1 _ (decide (4 < ((a0.Args.length : Nat) : Int))) ?_ h))
    refine weak_roots ?_ ?_ <;> repeat' first | exact xn | exact rn | refine xc ?_ ?_ | refine rc ?_ ?_ ?_ | rfl
  intro c3 h
  unfold txn_ValidCall_J1 at h
  refine Wk_cond_bool rfl (fun hc7 => ?_) (fun hc7 => ?_)
  · rw [if_pos hc7] at h
    refine Wk_seq (Wk_regionZ fun Z hZ => ?_)
    simp only [go_sem, seval, hc7]
    refine hZ _ (pp (Wk_ret (pp ?_)))
    cases h
    simp only [go_sem, seval]
    exact ⟨_, rfl, RokI.h, PureI.h⟩
  rw [if_neg (ne_true_of_eq_false hc7)] at h
  refine Wk_skip (pp ?_)
  unfold txn_ValidCall_J2 at h
  refine Wk_seq ?_
  obtain ⟨r4, hr8, h⟩ := Option.bind_eq_some_iff.1 h
  refine Wk_regionZ fun Z hZ => ?_
  simp only [go_sem, seval, hc7, hr8]
  refine hZ _ (pp (Wk_ret (pp ?_)))
  cases h
  simp only [go_sem, seval]
  exact ⟨_, rfl, RokI.h, PureI.h⟩
def fs_txn_ValidCall (N : Nat) : FnS := ⟨[], true, fn1 ActorCall.decA fun q0 => (txn_ValidCall N q0).map fun r => .val (.bool r), false⟩
attribute [go_sem] fs_txn_ValidCall
theorem fs_txn_ValidCall_ok (N : Nat) : FSOk Try.prog 28 (fs_txn_ValidCall N) := ok1 (fun q0 r h => by
  obtain ⟨r', hr, rfl⟩ := Option.map_eq_some_iff.1 h
  exact w_txn_ValidCall N q0 r' hr) (ActorCall.decA_le)


noncomputable def G_session_ValidSubmission_1 (N d f : Nat) : Option FnS := glist [(4, 28, fs_txn_ValidCall N)] d f
attribute [go_sem] G_session_ValidSubmission_1
theorem w_session_ValidSubmission_1 (N : Nat) (a0 : ActorCall) (r : Bool) (h : session_ValidSubmission_1 N a0 = some r) : Con Try.prog 27 [] true [.agg (ActorCall.row a0)] (.val (.bool r)) := by
  refine fun_ok4 (G := (G_session_ValidSubmission_1 N)) Try.func27 rfl (by decide) (by kernel_rfl) (gc 4 (fs_txn_ValidCall_ok N) gn) [] mix (Nat.le_of_ble_eq_true rfl) ?_
  simp only [Try.f27]
  unfold session_ValidSubmission_1 at h
  refine Wk_seq (Wk_regionZ fun Z hZ => ?_)
  simp only [go_sem, seval]
  refine hZ _ (pp (Wk_seq ?_))
  obtain ⟨r1, hr1, h⟩ := Option.bind_eq_some_iff.1 h
  refine Wk_regionZ fun Z hZ => ?_
  simp only [go_sem, seval, hr1]
  refine hZ _ (pp (Wk_ret (pp ?_)))
  cases h
  simp only [go_sem, seval]
  exact ⟨_, rfl, RokI.h, PureI.h⟩
def fs_session_ValidSubmission_1 (N : Nat) : FnS := ⟨[], true, fn1 ActorCall.decA fun q0 => (session_ValidSubmission_1 N q0).map fun r => .val (.bool r), false⟩
attribute [go_sem] fs_session_ValidSubmission_1
theorem fs_session_ValidSubmission_1_ok (N : Nat) : FSOk Try.prog 27 (fs_session_ValidSubmission_1 N) := ok1 (fun q0 r h => by
  obtain ⟨r', hr, rfl⟩ := Option.map_eq_some_iff.1 h
  exact w_session_ValidSubmission_1 N q0 r' hr) (ActorCall.decA_le)


noncomputable def G_slices_IndexFunc_ActorCall_session_ValidSubmission_1 (N d f : Nat) : Option FnS := glist [(16, 27, fs_session_ValidSubmission_1 N)] d f
attribute [go_sem] G_slices_IndexFunc_ActorCall_session_ValidSubmission_1
theorem w_slices_IndexFunc_ActorCall_session_ValidSubmission_1 (N : Nat) (a0 : (List ActorCall)) (r : Int) (h : slices_IndexFunc_ActorCall_session_ValidSubmission_1 N a0 = some r) : Con Try.prog 46 [] true [.sl false none 4 none (a0.map ActorCall.row), .clo 27 []] (.val (.int .i64 r)) := by
  refine fun_ok4 (G := (G_slices_IndexFunc_ActorCall_session_ValidSubmission_1 N)) Try.func46 rfl (by decide) (by kernel_rfl) (gc 16 (fs_session_ValidSubmission_1_ok N) gn) [] mix (Nat.le_of_ble_eq_true rfl) ?_
  simp only [Try.f46]
  unfold slices_IndexFunc_ActorCall_session_ValidSubmission_1 at h
  refine Wk_seq (Wk_regionZ fun Z hZ => ?_)
  simp only [go_sem, seval]
  refine hZ _ (pp (Wk_seq (Wk_seq (Wk_regionZ fun Z hZ => ?_))))
  simp only [go_sem, seval]
  refine hZ _ (pp (Wk_block (Wk_real fun hreal2 => ?_)))
  have hl1 := hreal2.lenT 0 (by decide) (by simp only [go_sem, seval]; rfl)
  rw [List.length_map] at hl1
  refine Wk_range (fun (v2 : Nat) (b : Unit) => ⟨tab 19 (updT (updT (updT (updT deadT 0 (.sl false none 4 none (a0.map ActorCall.row))) 1 (.clo 27 [])) 7 (.val (.int .i64 ((a0.length : Nat) : Int)))) 8 (.val (.int .i64 ((v2 : Nat) : Int)))), RZ⟩) () h ?_ ?_
  · refine weak_roots ?_ ?_ <;> repeat' first | exact xn | exact rn | refine xc ?_ ?_ | refine rc ?_ ?_ ?_ | rfl
  rintro v2 ⟨⟩ hi3 h -
  rcases (drop_cases a0 v2 hi3).symm with ⟨hi3', _, hd6⟩ | ⟨x5, hi3', hx4, hd6⟩
  · rw [hd6] at h
    simp only [slices_IndexFunc_ActorCall_session_ValidSubmission_1_L1] at h
    refine Wk_seq (Wk_regionZ fun Z hZ => ?_)
    simp only [go_sem, seval, hi3']
    refine hZ _ (pp (Wk_seq ?_))
    try simp only [Int.ofNat_lt, hi3', if_true, if_false] at h
    refine Wk_cond_f rfl (Wk_exit (pp (Wk_seq (Wk_regionZ fun Z hZ => ?_))))
    simp only [go_sem, seval]
    refine hZ _ (pp (Wk_ret (pp ?_)))
    cases h
    simp only [go_sem, seval]
    exact ⟨_, rfl, RokI.h, PureI.h⟩
  rw [hd6] at h
  simp only [slices_IndexFunc_ActorCall_session_ValidSubmission_1_L1] at h
  have hw5 := wrap_succ hi3' hl1
  refine Wk_seq (Wk_regionZ fun Z hZ => ?_)
  simp only [go_sem, seval, hi3']
  refine hZ _ (pp (Wk_seq ?_))
  try simp only [Int.ofNat_lt, hi3', if_true, if_false] at h
  refine Wk_cond_t rfl (Wk_skip (pp (Wk_seq (Wk_block (Wk_seq (Wk_regionZ fun Z hZ => ?_))))))
  simp only [go_sem, seval]
  refine hZ _ (pp (Wk_seq ?_))
  try rw [gx_nat hx4] at h
  obtain ⟨r1, hr7, h⟩ := Option.bind_eq_some_iff.1 h
  refine Wk_regionZ fun Z hZ => ?_
  simp only [go_sem, seval, hx4, hi3', hr7]
  refine hZ _ (pp (Wk_cond_bool rfl (fun hc8 => ?_) (fun hc8 => ?_)))
  · rw [if_pos hc8] at h
    refine Wk_seq (Wk_regionZ fun Z hZ => ?_)
    simp only [go_sem, seval, hc8]
    refine hZ _ (pp (Wk_ret (pp ?_)))
    cases h
    simp only [go_sem, seval]
    exact ⟨_, rfl, RokI.h, PureI.h⟩
  rw [if_neg (ne_true_of_eq_false hc8)] at h
  refine Wk_skip (pp (Wk_regionZ fun Z hZ => ?_))
  simp only [go_sem, seval, hw5, hc8]
  refine hZ _ (pp ?_)
  first | refine ⟨(), ?_, h⟩ | refine ⟨hi3', (), ?_, h⟩
  refine weak_roots ?_ ?_ <;> repeat' first | exact xn | exact rn | refine xc ?_ ?_ | refine rc ?_ ?_ ?_ | rfl
def fs_slices_IndexFunc_ActorCall_session_ValidSubmission_1 (N : Nat) : FnS := { own := [], pure := true, fn := fun cs => match cs with
  | [c0, .clo 27 []] => ((decL 4 ActorCall.dec) c0).bind fun qc0 => (slices_IndexFunc_ActorCall_session_ValidSubmission_1 N qc0).map fun r => .val (.int .i64 r)
  | _ => none }
attribute [go_sem] fs_slices_IndexFunc_ActorCall_session_ValidSubmission_1
theorem fs_slices_IndexFunc_ActorCall_session_ValidSubmission_1_ok (N : Nat) : FSOk Try.prog 46 (fs_slices_IndexFunc_ActorCall_session_ValidSubmission_1 N) := by
  refine ⟨fun cs r h => ?_, fun h => by cases h⟩
  simp only [fs_slices_IndexFunc_ActorCall_session_ValidSubmission_1] at h
  split at h
  · simp only [Option.bind_eq_some_iff, Option.map_eq_some_iff] at h
    obtain ⟨q0, h0, r', hr, rfl⟩ := h
    exact ((w_slices_IndexFunc_ActorCall_session_ValidSubmission_1 N q0 r' hr).args (LeL.cons (decL_le ActorCall.dec_le h0) (LeL.cons (Le.clo (LeL.nil)) (LeL.nil))))
  · cases h


noncomputable def G_slices_ContainsFunc_ActorCall_session_ValidSubmission_1 (N d f : Nat) : Option FnS := glist [(7, 46, fs_slices_IndexFunc_ActorCall_session_ValidSubmission_1 N)] d f
attribute [go_sem] G_slices_ContainsFunc_ActorCall_session_ValidSubmission_1
theorem w_slices_ContainsFunc_ActorCall_session_ValidSubmission_1 (N : Nat) (a0 : (List ActorCall)) (r : Bool) (h : slices_ContainsFunc_ActorCall_session_ValidSubmission_1 N a0 = some r) : Con Try.prog 26 [] true [.sl false none 4 none (a0.map ActorCall.row), .clo 27 []] (.val (.bool r)) := by
  refine fun_ok4 (G := (G_slices_ContainsFunc_ActorCall_session_ValidSubmission_1 N)) Try.func26 rfl (by decide) (by kernel_rfl) (gc 7 (fs_slices_IndexFunc_ActorCall_session_ValidSubmission_1_ok N) gn) [] mix (Nat.le_of_ble_eq_true rfl) ?_
  simp only [Try.f26]
  unfold slices_ContainsFunc_ActorCall_session_ValidSubmission_1 at h
  refine Wk_seq (Wk_regionZ fun Z hZ => ?_)
  simp only [go_sem, seval]
  refine hZ _ (pp (Wk_seq ?_))
  obtain ⟨r1, hr1, h⟩ := Option.bind_eq_some_iff.1 h
  refine Wk_regionZ fun Z hZ => ?_
  simp only [go_sem, seval, hr1]
  refine hZ _ (pp (Wk_ret (pp ?_)))
  cases h
  simp only [go_sem, seval]
  exact ⟨_, rfl, RokI.h, PureI.h⟩
def fs_slices_ContainsFunc_ActorCall_session_ValidSubmission_1 (N : Nat) : FnS := { own := [], pure := true, fn := fun cs => match cs with
  | [c0, .clo 27 []] => ((decL 4 ActorCall.dec) c0).bind fun qc0 => (slices_ContainsFunc_ActorCall_session_ValidSubmission_1 N qc0).map fun r => .val (.bool r)
  | _ => none }
attribute [go_sem] fs_slices_ContainsFunc_ActorCall_session_ValidSubmission_1
theorem fs_slices_ContainsFunc_ActorCall_session_ValidSubmission_1_ok (N : Nat) : FSOk Try.prog 26 (fs_slices_ContainsFunc_ActorCall_session_ValidSubmission_1 N) := by
  refine ⟨fun cs r h => ?_, fun h => by cases h⟩
  simp only [fs_slices_ContainsFunc_ActorCall_session_ValidSubmission_1] at h
  split at h
  · simp only [Option.bind_eq_some_iff, Option.map_eq_some_iff] at h
    obtain ⟨q0, h0, r', hr, rfl⟩ := h
    exact ((w_slices_ContainsFunc_ActorCall_session_ValidSubmission_1 N q0 r' hr).args (LeL.cons (decL_le ActorCall.dec_le h0) (LeL.cons (Le.clo (LeL.nil)) (LeL.nil))))
  · cases h


noncomputable def G_session_ValidSubmission (N d f : Nat) : Option FnS := glist [(5, 23, fs_session_validName N), (52, 26, fs_slices_ContainsFunc_ActorCall_session_ValidSubmission_1 N)] d f
attribute [go_sem] G_session_ValidSubmission
theorem w_session_ValidSubmission (N : Nat) (a0 : Submission) (r : Bool) (h : session_ValidSubmission N a0 = some r) : Con Try.prog 11 [] true [.agg (Submission.row a0)] (.val (.bool r)) := by
  refine fun_ok4 (G := (G_session_ValidSubmission N)) Try.func11 rfl (by decide) (by kernel_rfl) (gc 5 (fs_session_validName_ok N) (gc 52 (fs_slices_ContainsFunc_ActorCall_session_ValidSubmission_1_ok N) gn)) [] mix (Nat.le_of_ble_eq_true rfl) ?_
  simp only [Try.f11]
  unfold session_ValidSubmission at h
  refine Wk_seq (Wk_regionZ fun Z hZ => ?_)
  simp only [go_sem, seval]
  refine hZ _ (pp (Wk_seq ?_))
  apply Wk_join1 (fun (c5 : Bool) => ⟨tab 54 (updT (updT deadT 1 (.pref 1 [] 0 0)) 28 (.val (.bool c5))), (upd RZ 1 (.sl true none 5 (some 1) [Submission.row a0]))⟩)
  · intro hJ1
    obtain ⟨r6, hr2, h⟩ := Option.bind_eq_some_iff.1 h
    refine Wk_regionZ fun Z hZ => ?_
    simp only [go_sem, seval, hr2]
    refine RX_guard_nbool rfl (fun hc3 => ?_) (fun hc3 => ?_)
    · rw [if_neg (ne_true_of_eq_false hc3)] at h
      simp only [go_sem, seval, hc3]
      refine hZ _ (pp (hJ1 _ true ?_ h))
      refine weak_roots ?_ ?_ <;> repeat' first | exact xn | exact rn | refine xc ?_ ?_ | refine rc ?_ ?_ ?_ | rfl | simp only [go_sem, seval, Bool.or_self, List.length_set, Int.natCast_zero, Int.cast_ofNat_Int, hr2, hc3]
    rw [if_pos hc3] at h
    simp only [go_sem, seval, hc3]
    refine RX_guard_dec rfl (fun hc4 => ?_) (fun hc4 => ?_)
    · have hc4d := decide_eq_true hc4
      rw [if_pos hc4] at h
      simp only [go_sem, seval, hc4d]
      refine hZ _ (pp (hJ1 _ true ?_ h))
      refine weak_roots ?_ ?_ <;> repeat' first | exact xn | exact rn | refine xc ?_ ?_ | refine rc ?_ ?_ ?_ | rfl | simp only [go_sem, seval, Bool.or_self, List.length_set, Int.natCast_zero, Int.cast_ofNat_Int, hr2, hc3, hc4d]
    have hc4d := decide_eq_false hc4
    rw [if_neg hc4] at h
    simp only [go_sem, seval, hc4d]
    refine RX_guard_dec rfl (fun hc5 => ?_) (fun hc5 => ?_)
    · have hc5d := decide_eq_true hc5
      rw [if_pos hc5] at h
      simp only [go_sem, seval, hc5d]
      refine hZ _ (pp (hJ1 _ true ?_ h))
      refine weak_roots ?_ ?_ <;> repeat' first | exact xn | exact rn | refine xc ?_ ?_ | refine rc ?_ ?_ ?_ | rfl | simp only [go_sem, seval, Bool.or_self, List.length_set, Int.natCast_zero, Int.cast_ofNat_Int, hr2, hc3, hc4d, hc5d]
    have hc5d := decide_eq_false hc5
    rw [if_neg hc5] at h
    simp only [go_sem, seval, hc5d]
    refine RX_guard_dec rfl (fun hc6 => ?_) (fun hc6 => ?_)
    · have hc6d := decide_eq_true hc6
      rw [if_pos hc6] at h
      simp only [go_sem, seval, hc6d]
      refine hZ _ (pp (hJ1 _ true ?_ h))
      refine weak_roots ?_ ?_ <;> repeat' first | exact xn | exact rn | refine xc ?_ ?_ | refine rc ?_ ?_ ?_ | rfl | simp only [go_sem, seval, Bool.or_self, List.length_set, Int.natCast_zero, Int.cast_ofNat_Int, hr2, hc3, hc4d, hc5d, hc6d]
    have hc6d := decide_eq_false hc6
    rw [if_neg hc6] at h
    simp only [go_sem, seval, hc6d]
    refine hZ _ (pp (hJ1 _ (decide (a0.Seq ≤ a0.Acked)) ?_ h))
    refine weak_roots ?_ ?_ <;> repeat' first | exact xn | exact rn | refine xc ?_ ?_ | refine rc ?_ ?_ ?_ | rfl | simp only [go_sem, seval, Bool.or_self, List.length_set, Int.natCast_zero, Int.cast_ofNat_Int, hr2, hc3, hc4d, hc5d, hc6d]
  intro c5 h
  unfold session_ValidSubmission_J1 at h
  refine Wk_cond_bool rfl (fun hc7 => ?_) (fun hc7 => ?_)
  · rw [if_pos hc7] at h
    refine Wk_seq (Wk_regionZ fun Z hZ => ?_)
    simp only [go_sem, seval, hc7]
    refine hZ _ (pp (Wk_ret (pp ?_)))
    cases h
    simp only [go_sem, seval]
    exact ⟨_, rfl, RokI.h, PureI.h⟩
  rw [if_neg (ne_true_of_eq_false hc7)] at h
  refine Wk_skip (pp ?_)
  unfold session_ValidSubmission_J4 at h
  refine Wk_seq ?_
  apply Wk_join1 (fun (c9 : Bool) => ⟨tab 54 (updT (updT deadT 1 (.pref 1 [] 0 0)) 49 (.val (.bool c9))), (upd RZ 1 (.sl true none 5 (some 1) [Submission.row a0]))⟩)
  · intro hJ8
    refine Wk_regionZ fun Z hZ => ?_
    simp only [go_sem, seval, hc7]
    refine RX_guard_dec rfl (fun hc9 => ?_) (fun hc9 => ?_)
    · have hc9d := decide_eq_true hc9
      rw [if_pos hc9] at h
      simp only [go_sem, seval, hc9d]
      refine hZ _ (pp (hJ8 _ true ?_ h))
      refine weak_roots ?_ ?_ <;> repeat' first | exact xn | exact rn | refine xc ?_ ?_ | refine rc ?_ ?_ ?_ | rfl | simp only [go_sem, seval, Bool.or_self, List.length_set, Int.natCast_zero, Int.cast_ofNat_Int, hc7, hc9d]
    have hc9d := decide_eq_false hc9
    rw [if_neg hc9] at h
    simp only [go_sem, seval, hc9d]
    refine RX_guard_dec rfl (fun hc10 => ?_) (fun hc10 => ?_)
    · have hc10d := decide_eq_true hc10
      rw [if_pos hc10] at h
      simp only [go_sem, seval, hc10d]
      refine hZ _ (pp (hJ8 _ true ?_ h))
      refine weak_roots ?_ ?_ <;> repeat' first | exact xn | exact rn | refine xc ?_ ?_ | refine rc ?_ ?_ ?_ | rfl | simp only [go_sem, seval, Bool.or_self, List.length_set, Int.natCast_zero, Int.cast_ofNat_Int, hc7, hc9d, hc10d]
    have hc10d := decide_eq_false hc10
    rw [if_neg hc10] at h
    simp only [go_sem, seval, hc10d]
    refine RX_guard_nbool rfl (fun hc11 => ?_) (fun hc11 => ?_)
    · rw [if_neg (ne_true_of_eq_false hc11)] at h
      simp only [go_sem, seval, hc11]
      refine hZ _ (pp (hJ8 _ (!decide (((a0.Calls.length : Nat) : Int) = 1)) ?_ h))
      refine weak_roots ?_ ?_ <;> repeat' first | exact xn | exact rn | refine xc ?_ ?_ | refine rc ?_ ?_ ?_ | rfl | simp only [go_sem, seval, hc11]
    rw [if_pos hc11] at h
    simp only [go_sem, seval, hc11]
    refine hZ _ (pp (hJ8 _ false ?_ h))
    refine weak_roots ?_ ?_ <;> repeat' first | exact xn | exact rn | refine xc ?_ ?_ | refine rc ?_ ?_ ?_ | rfl | simp only [go_sem, seval, hc11]
  intro c9 h
  unfold session_ValidSubmission_J2 at h
  refine Wk_cond_bool rfl (fun hc12 => ?_) (fun hc12 => ?_)
  · rw [if_pos hc12] at h
    refine Wk_seq (Wk_regionZ fun Z hZ => ?_)
    simp only [go_sem, seval, hc12]
    refine hZ _ (pp (Wk_ret (pp ?_)))
    cases h
    simp only [go_sem, seval]
    exact ⟨_, rfl, RokI.h, PureI.h⟩
  rw [if_neg (ne_true_of_eq_false hc12)] at h
  refine Wk_skip (pp ?_)
  unfold session_ValidSubmission_J3 at h
  refine Wk_seq ?_
  obtain ⟨r10, hr13, h⟩ := Option.bind_eq_some_iff.1 h
  refine Wk_regionZ fun Z hZ => ?_
  simp only [go_sem, seval, hc12, hr13]
  refine hZ _ (pp (Wk_ret (pp ?_)))
  cases h
  simp only [go_sem, seval]
  exact ⟨_, rfl, RokI.h, PureI.h⟩
def fs_session_ValidSubmission (N : Nat) : FnS := ⟨[], true, fn1 Submission.decA fun q0 => (session_ValidSubmission N q0).map fun r => .val (.bool r), false⟩
attribute [go_sem] fs_session_ValidSubmission
theorem fs_session_ValidSubmission_ok (N : Nat) : FSOk Try.prog 11 (fs_session_ValidSubmission N) := ok1 (fun q0 r h => by
  obtain ⟨r', hr, rfl⟩ := Option.map_eq_some_iff.1 h
  exact w_session_ValidSubmission N q0 r' hr) (Submission.decA_le)


theorem w_session_validTime (N : Nat) (a0 : Int) (r : Bool) (h : session_validTime N a0 = some r) : Con Try.prog 37 [] true [.val (.int .i64 a0)] (.val (.bool r)) := by
  refine fun_ok4 (G := (glist [])) Try.func37 rfl (by decide) (by kernel_rfl) gn [] mix (Nat.le_of_ble_eq_true rfl) ?_
  simp only [Try.f37]
  unfold session_validTime at h
  refine Wk_seq (Wk_regionZ fun Z hZ => ?_)
  simp only [go_sem, seval]
  refine hZ _ (pp (Wk_seq (Wk_regionZ fun Z hZ => ?_)))
  simp only [go_sem, seval]
  refine RX_guard_dec rfl (fun hc1 => ?_) (fun hc1 => ?_)
  · have hc1d := decide_eq_true hc1
    rw [if_pos hc1] at h
    simp only [go_sem, seval, hc1d]
    refine hZ _ (pp (Wk_ret (pp ?_)))
    cases h
    simp only [go_sem, seval]
    exact ⟨_, rfl, RokI.h, PureI.h⟩
  have hc1d := decide_eq_false hc1
  rw [if_neg hc1] at h
  simp only [go_sem, seval, hc1d]
  refine hZ _ (pp (Wk_ret (pp ?_)))
  cases h
  simp only [go_sem, seval]
  exact ⟨_, rfl, RokI.h, PureI.h⟩
def fs_session_validTime (N : Nat) : FnS := ⟨[], true, fn1 (decI .i64) fun q0 => (session_validTime N q0).map fun r => .val (.bool r), false⟩
attribute [go_sem] fs_session_validTime
theorem fs_session_validTime_ok (N : Nat) : FSOk Try.prog 37 (fs_session_validTime N) := ok1 (fun q0 r h => by
  obtain ⟨r', hr, rfl⟩ := Option.map_eq_some_iff.1 h
  exact w_session_validTime N q0 r' hr) (decI_le)


theorem w_session_acknowledged (N : Nat) (a0 : Session) (r : Int) (h : session_acknowledged N a0 = some r) : Con Try.prog 38 [] true [.agg (Session.row a0)] (.val (.int .i64 r)) := by
  refine fun_ok4 (G := (glist [])) Try.func38 rfl (by decide) (by kernel_rfl) gn [] mix (Nat.le_of_ble_eq_true rfl) ?_
  simp only [Try.f38]
  unfold session_acknowledged at h
  refine Wk_seq (Wk_regionZ fun Z hZ => ?_)
  simp only [go_sem, seval]
  refine hZ _ (pp (Wk_seq (Wk_seq (Wk_regionZ fun Z hZ => ?_))))
  simp only [go_sem, seval]
  refine hZ _ (pp (Wk_cond_dec rfl (fun hc1 => ?_) (fun hc1 => ?_)))
  · have hc1d := decide_eq_true hc1
    rw [if_pos hc1] at h
    refine Wk_seq ?_
    obtain ⟨x1, hb2, hx3, h⟩ := gx_some h
    try simp only [Int.toNat_zero] at hx3
    try simp only [Int.ofNat_lt, Int.natCast_nonneg, true_and] at hb2
    refine Wk_regionZ fun Z hZ => ?_
    simp only [go_sem, seval, hb2, hx3]
    refine hZ _ (pp (Wk_ret (pp ?_)))
    cases h
    simp only [go_sem, seval]
    exact ⟨_, rfl, RokI.h, PureI.h⟩
  have hc1d := decide_eq_false hc1
  rw [if_neg hc1] at h
  refine Wk_skip (pp (Wk_seq (Wk_regionZ fun Z hZ => ?_)))
  simp only [go_sem, seval, hc1d]
  refine hZ _ (pp (Wk_ret (pp ?_)))
  cases h
  simp only [go_sem, seval]
  exact ⟨_, rfl, RokI.h, PureI.h⟩
def fs_session_acknowledged (N : Nat) : FnS := ⟨[], true, fn1 Session.decA fun q0 => (session_acknowledged N q0).map fun r => .val (.int .i64 r), false⟩
attribute [go_sem] fs_session_acknowledged
theorem fs_session_acknowledged_ok (N : Nat) : FSOk Try.prog 38 (fs_session_acknowledged N) := ok1 (fun q0 r h => by
  obtain ⟨r', hr, rfl⟩ := Option.map_eq_some_iff.1 h
  exact w_session_acknowledged N q0 r' hr) (Session.decA_le)


noncomputable def G_session_Valid (N d f : Nat) : Option FnS := glist [(8, 23, fs_session_validName N), (31, 11, fs_session_ValidSubmission N), (50, 37, fs_session_validTime N), (75, 38, fs_session_acknowledged N)] d f
attribute [go_sem] G_session_Valid
theorem w_session_Valid (N : Nat) (a0 : Session) (r : Bool) (h : session_Valid N a0 = some r) : Con Try.prog 17 [] true [.agg (Session.row a0)] (.val (.bool r)) := by
  refine fun_ok4 (G := (G_session_Valid N)) Try.func17 rfl (by decide) (by kernel_rfl) (gc 8 (fs_session_validName_ok N) (gc 31 (fs_session_ValidSubmission_ok N) (gc 50 (fs_session_validTime_ok N) (gc 75 (fs_session_acknowledged_ok N) gn)))) [] mix (Nat.le_of_ble_eq_true rfl) ?_
  simp only [Try.f17]
  unfold session_Valid at h
  refine Wk_seq (Wk_regionZ fun Z hZ => ?_)
  simp only [go_sem, seval]
  refine hZ _ (pp (Wk_seq ?_))
  apply Wk_join1 (fun (c5 : Bool) => ⟨tab 78 (updT (updT deadT 1 (.pref 1 [] 0 0)) 19 (.val (.bool c5))), (upd RZ 1 (.sl true none 3 (some 1) [Session.row a0]))⟩)
  · intro hJ1
    obtain ⟨r6, hr2, h⟩ := Option.bind_eq_some_iff.1 h
    refine Wk_regionZ fun Z hZ => ?_
    simp only [go_sem, seval, hr2]
    refine RX_guard_nbool rfl (fun hc3 => ?_) (fun hc3 => ?_)
    · rw [if_neg (ne_true_of_eq_false hc3)] at h
      simp only [go_sem, seval, hc3]
      refine hZ _ (pp (hJ1 _ true ?_ h))
      refine weak_roots ?_ ?_ <;> repeat' first | exact xn | exact rn | refine xc ?_ ?_ | refine rc ?_ ?_ ?_ | rfl
    rw [if_pos hc3] at h
    simp only [go_sem, seval, hc3]
    refine RX_guard_dec rfl (fun hc4 => ?_) (fun hc4 => ?_)
    · have hc4d := decide_eq_true hc4
      rw [if_pos hc4] at h
      simp only [go_sem, seval, hc4d]
      refine hZ _ (pp (hJ1 _ true ?_ h))
      refine weak_roots ?_ ?_ <;> repeat' first | exact xn | exact rn | refine xc ?_ ?_ | refine rc ?_ ?_ ?_ | rfl
    have hc4d := decide_eq_false hc4
    rw [if_neg hc4] at h
    simp only [go_sem, seval, hc4d]
    refine hZ _ (pp (hJ1 _ (decide (1099511627776 < a0.Next)) ?_ h))
    refine weak_roots ?_ ?_ <;> repeat' first | exact xn | exact rn | refine xc ?_ ?_ | refine rc ?_ ?_ ?_ | rfl
  intro c5 h
  unfold session_Valid_J1 at h
  refine Wk_cond_bool rfl (fun hc5 => ?_) (fun hc5 => ?_)
  · rw [if_pos hc5] at h
    refine Wk_seq (Wk_regionZ fun Z hZ => ?_)
    simp only [go_sem, seval, hc5]
    refine hZ _ (pp (Wk_ret (pp ?_)))
    cases h
    simp only [go_sem, seval]
    exact ⟨_, rfl, RokI.h, PureI.h⟩
  rw [if_neg (ne_true_of_eq_false hc5)] at h
  refine Wk_skip (pp ?_)
  unfold session_Valid_J4 at h
  refine Wk_seq (Wk_seq (Wk_regionZ fun Z hZ => ?_))
  simp only [go_sem, seval, hc5]
  refine hZ _ (pp (Wk_block (Wk_real fun hreal7 => ?_)))
  have hl6 := hreal7.lenT 21 (by decide) (by simp only [go_sem, seval]; rfl)
  rw [List.length_map] at hl6
  refine Wk_range (fun (v6 : Nat) (b : Unit) => ⟨tab 78 (updT (updT (updT (updT deadT 1 (.pref 1 [] 0 0)) 21 (.sl false none 6 none (a0.Open.map PendingSubmission.row))) 22 (.val (.int .i64 ((a0.Open.length : Nat) : Int)))) 23 (.val (.int .i64 ((v6 : Nat) : Int)))), (upd RZ 1 (.sl true none 3 (some 1) [Session.row a0]))⟩) () h ?_ ?_
  · refine weak_roots ?_ ?_ <;> repeat' first | exact xn | exact rn | refine xc ?_ ?_ | refine rc ?_ ?_ ?_ | rfl
  rintro v6 ⟨⟩ hi8 h -
  rcases (drop_cases a0.Open v6 hi8).symm with ⟨hi8', _, hd11⟩ | ⟨x9, hi8', hx9, hd11⟩
  · rw [hd11] at h
    simp only [session_Valid_L1] at h
    refine Wk_seq (Wk_regionZ fun Z hZ => ?_)
    simp only [go_sem, seval, hi8']
    refine hZ _ (pp (Wk_seq ?_))
    try simp only [Int.ofNat_lt, hi8', if_true, if_false] at h
    refine Wk_cond_f rfl (Wk_exit (pp ?_))
    unfold session_Valid_J3 at h
    refine Wk_seq ?_
    obtain ⟨r25, hr23, h⟩ := Option.bind_eq_some_iff.1 h
    refine Wk_regionD fun Z hZ => ?_
    simp only [go_sem, seval, hr23]
    repeat with_reducible refine and_bar (by kernel_rfl) ?_
    refine hZ _ (by kernel_rfl) (pp (Wk_ret (pp ?_)))
    cases h
    simp only [go_sem, seval]
    exact ⟨_, rfl, RokI.h, PureI.h⟩
  rw [hd11] at h
  simp only [session_Valid_L1] at h
  have hw10 := wrap_succ hi8' hl6
  refine Wk_seq (Wk_regionZ fun Z hZ => ?_)
  simp only [go_sem, seval, hi8']
  refine hZ _ (pp (Wk_seq ?_))
  try simp only [Int.ofNat_lt, hi8', if_true, if_false] at h
  refine Wk_cond_t rfl (Wk_skip (pp (Wk_seq (Wk_block (Wk_seq ?_)))))
  try rw [gx_nat hx9] at h
  refine Wk_regionZ fun Z hZ => ?_
  simp only [go_sem, seval, hx9, hi8']
  refine hZ _ (pp (Wk_seq (Wk_regionZ fun Z hZ => ?_)))
  simp only [go_sem, seval]
  refine hZ _ (pp ?_)
  apply Wk_join1 (fun (c21 : Bool) => ⟨tab 78 (updT (updT (updT (updT (updT deadT 1 (.pref 1 [] 0 0)) 21 (.sl false none 6 none (a0.Open.map PendingSubmission.row))) 22 (.val (.int .i64 ((a0.Open.length : Nat) : Int)))) 23 (.val (.int .i64 ((v6 : Nat) : Int)))) 69 (.val (.bool c21))), (upd RZ 1 (.sl true none 3 (some 1) [Session.row a0]))⟩)
  · intro hJ12
    obtain ⟨r22, hr13, h⟩ := Option.bind_eq_some_iff.1 h
    refine Wk_regionD fun Z hZ => ?_
    simp only [go_sem, seval, hr13]
    repeat with_reducible refine and_bar (by kernel_rfl) ?_
    refine RX_guard_nbool rfl (fun hc14 => ?_) (fun hc14 => ?_)
    · rw [if_neg (ne_true_of_eq_false hc14)] at h
      simp only [go_sem, seval, hc14]
      refine hZ _ (by kernel_rfl) (pp (hJ12 _ true ?_ h))
      refine weak_roots ?_ ?_ <;> repeat' first | exact xn | exact rn | refine xc ?_ ?_ | refine rc ?_ ?_ ?_ | rfl
    rw [if_pos hc14] at h
    simp only [go_sem, seval, hc14]
    refine RX_guard_nbool rfl (fun hc15 => ?_) (fun hc15 => ?_)
    · rw [if_neg (ne_true_of_eq_false hc15)] at h
      simp only [go_sem, seval, hc15]
      refine hZ _ (by kernel_rfl) (pp (hJ12 _ true ?_ h))
      refine weak_roots ?_ ?_ <;> repeat' first | exact xn | exact rn | refine xc ?_ ?_ | refine rc ?_ ?_ ?_ | rfl
    rw [if_pos hc15] at h
    simp only [go_sem, seval, hc15]
    refine RX_guard_dec rfl (fun hc16 => ?_) (fun hc16 => ?_)
    · have hc16d := decide_eq_true hc16
      rw [if_pos hc16] at h
      simp only [go_sem, seval, hc16d]
      refine hZ _ (by kernel_rfl) (pp (hJ12 _ true ?_ h))
      refine weak_roots ?_ ?_ <;> repeat' first | exact xn | exact rn | refine xc ?_ ?_ | refine rc ?_ ?_ ?_ | rfl
    have hc16d := decide_eq_false hc16
    rw [if_neg hc16] at h
    obtain ⟨r23, hr17, h⟩ := Option.bind_eq_some_iff.1 h
    simp only [go_sem, seval, hc16d, hr17]
    repeat with_reducible refine and_bar (by kernel_rfl) ?_
    refine RX_guard_nbool rfl (fun hc18 => ?_) (fun hc18 => ?_)
    · rw [if_neg (ne_true_of_eq_false hc18)] at h
      simp only [go_sem, seval, hc18]
      refine hZ _ (by kernel_rfl) (pp (hJ12 _ true ?_ h))
      refine weak_roots ?_ ?_ <;> repeat' first | exact xn | exact rn | refine xc ?_ ?_ | refine rc ?_ ?_ ?_ | rfl
    rw [if_pos hc18] at h
    simp only [go_sem, seval, hc18]
    refine RX_guard_dec rfl (fun hc19 => ?_) (fun hc19 => ?_)
    · have hc19d := decide_eq_true hc19
      rw [if_pos hc19] at h
      obtain ⟨x24, hb20, hx21, h⟩ := gx_some h
      simp only [go_sem, seval, hc19d, hb20, hx21]
      refine hZ _ (by kernel_rfl) (pp (hJ12 _ (decide (x9.Submission_.Seq ≤ x24.Submission_.Seq)) ?_ h))
      refine weak_roots ?_ ?_ <;> repeat' first | exact xn | exact rn | refine xc ?_ ?_ | refine rc ?_ ?_ ?_ | rfl
    have hc19d := decide_eq_false hc19
    rw [if_neg hc19] at h
    simp only [go_sem, seval, hc19d]
    refine hZ _ (by kernel_rfl) (pp (hJ12 _ false ?_ h))
    refine weak_roots ?_ ?_ <;> repeat' first | exact xn | exact rn | refine xc ?_ ?_ | refine rc ?_ ?_ ?_ | rfl
  intro c21 h
  unfold session_Valid_J2 at h
  refine Wk_cond_bool rfl (fun hc22 => ?_) (fun hc22 => ?_)
  · rw [if_pos hc22] at h
    refine Wk_seq (Wk_regionZ fun Z hZ => ?_)
    simp only [go_sem, seval, hc22]
    refine hZ _ (pp (Wk_ret (pp ?_)))
    cases h
    simp only [go_sem, seval]
    exact ⟨_, rfl, RokI.h, PureI.h⟩
  rw [if_neg (ne_true_of_eq_false hc22)] at h
  refine Wk_skip (pp (Wk_regionZ fun Z hZ => ?_))
  simp only [go_sem, seval, hw10, hc22]
  refine hZ _ (pp ?_)
  first | refine ⟨(), ?_, h⟩ | refine ⟨hi8', (), ?_, h⟩
  refine weak_roots ?_ ?_ <;> repeat' first | exact xn | exact rn | refine xc ?_ ?_ | refine rc ?_ ?_ ?_ | rfl
def fs_session_Valid (N : Nat) : FnS := ⟨[], true, fn1 Session.decA fun q0 => (session_Valid N q0).map fun r => .val (.bool r), false⟩
attribute [go_sem] fs_session_Valid
theorem fs_session_Valid_ok (N : Nat) : FSOk Try.prog 17 (fs_session_Valid N) := ok1 (fun q0 r h => by
  obtain ⟨r', hr, rfl⟩ := Option.map_eq_some_iff.1 h
  exact w_session_Valid N q0 r' hr) (Session.decA_le)


theorem w_slices_Clone_PendingSubmission_nn (N : Nat) (a0 : (List PendingSubmission)) (r : (List PendingSubmission)) (h : slices_Clone_PendingSubmission N a0 = some r) : Con Try.prog 57 [] false [.sl false (some false) 6 none (a0.map PendingSubmission.row)] (.sl true none 6 none (r.map PendingSubmission.row)) := by
  refine fun_ok4 (G := (glist [])) Try.func57 rfl (by decide) (by kernel_rfl) gn [] mix (Nat.le_of_ble_eq_true rfl) ?_
  simp only [Try.f57]
  unfold slices_Clone_PendingSubmission at h
  refine Wk_seq (Wk_regionZ fun Z hZ => ?_)
  simp only [go_sem, seval]
  refine hZ _ (pp (Wk_seq (Wk_seq (Wk_regionZ fun Z hZ => ?_))))
  simp only [go_sem, seval]
  refine hZ _ (pp (Wk_cond_f rfl ?_))
  first | rw [if_pos (rfl : true = true)] at h | rw [if_neg Bool.false_ne_true] at h | skip
  refine Wk_skip (pp (Wk_seq ?_))
  first | obtain ⟨ha1, h⟩ := apn_some h | (obtain ⟨ha1, h⟩ := apx_some h; rw [List.nil_append] at h)
  simp only [Nat.reduceAdd] at ha1
  refine Wk_regionZ fun Z hZ => ?_
  simp only [go_sem, seval, ha1]
  refine hZ _ (pp (Wk_ret (pp ?_)))
  cases h
  simp only [go_sem, seval]
  exact ⟨_, rfl, RokI.h⟩
theorem w_slices_Clone_PendingSubmission_nil (N : Nat)  (r : (List PendingSubmission)) (h : slices_Clone_PendingSubmission N [] = some r) : Con Try.prog 57 [] false [.val (.slice none 0 0)] (.sl true none 6 none (r.map PendingSubmission.row)) := by
  refine fun_ok4 (G := (glist [])) Try.func57 rfl (by decide) (by kernel_rfl) gn [] mix (Nat.le_of_ble_eq_true rfl) ?_
  simp only [Try.f57]
  unfold slices_Clone_PendingSubmission at h
  refine Wk_seq (Wk_regionZ fun Z hZ => ?_)
  simp only [go_sem, seval]
  refine hZ _ (pp (Wk_seq (Wk_seq (Wk_regionZ fun Z hZ => ?_))))
  simp only [go_sem, seval]
  refine hZ _ (pp (Wk_cond_t rfl ?_))
  first | rw [if_pos (rfl : true = true)] at h | rw [if_neg Bool.false_ne_true] at h | skip
  refine Wk_seq (Wk_regionZ fun Z hZ => ?_)
  simp only [go_sem, seval]
  refine hZ _ (pp (Wk_ret (pp ?_)))
  obtain rfl : r = [] := by simpa [apn] using h.symm
  simp only [go_sem, seval]
  exact ⟨_, rfl, RokI.h⟩
theorem w_slices_Clone_PendingSubmission (N : Nat) (a0 : (List PendingSubmission)) (r : (List PendingSubmission)) (h : slices_Clone_PendingSubmission N a0 = some r) : Con Try.prog 57 [] false [.sl false none 6 none (a0.map PendingSubmission.row)] (.sl true none 6 none (r.map PendingSubmission.row)) :=
  Con_nl (fun e => by obtain rfl : a0 = [] := List.map_eq_nil_iff.1 e; exact w_slices_Clone_PendingSubmission_nil N r h) (w_slices_Clone_PendingSubmission_nn N a0 r h)
def fs_slices_Clone_PendingSubmission (N : Nat) : FnS := ⟨[], false, fn1 (decL 6 PendingSubmission.dec) fun q0 => (slices_Clone_PendingSubmission N q0).map fun r => .sl false none 6 none (r.map PendingSubmission.row), false⟩
attribute [go_sem] fs_slices_Clone_PendingSubmission
theorem fs_slices_Clone_PendingSubmission_ok (N : Nat) : FSOk Try.prog 57 (fs_slices_Clone_PendingSubmission N) := ok1 (fun q0 r h => by
  obtain ⟨r', hr, rfl⟩ := Option.map_eq_some_iff.1 h
  exact (w_slices_Clone_PendingSubmission N q0 r' hr).res (by (try simp only [go_sem]); exact RokI.h)) (fun h => decL_le PendingSubmission.dec_le h)

def fso_slices_Clone_PendingSubmission (N : Nat) : FnS := ⟨[], false, fn1 (decL 6 PendingSubmission.dec) fun q0 => (slices_Clone_PendingSubmission N q0).map fun r => .sl true none 6 none (r.map PendingSubmission.row), false⟩
attribute [go_sem] fso_slices_Clone_PendingSubmission
theorem fso_slices_Clone_PendingSubmission_ok (N : Nat) : FSOk Try.prog 57 (fso_slices_Clone_PendingSubmission N) := ok1 (fun q0 r h => by
  obtain ⟨r', hr, rfl⟩ := Option.map_eq_some_iff.1 h
  exact w_slices_Clone_PendingSubmission N q0 r' hr) (fun h => decL_le PendingSubmission.dec_le h)


theorem w_slices_Clone_ActorCall_nn (N : Nat) (a0 : (List ActorCall)) (r : (List ActorCall)) (h : slices_Clone_ActorCall N a0 = some r) : Con Try.prog 64 [] false [.sl false (some false) 4 none (a0.map ActorCall.row)] (.sl true none 4 none (r.map ActorCall.row)) := by
  refine fun_ok4 (G := (glist [])) Try.func64 rfl (by decide) (by kernel_rfl) gn [] mix (Nat.le_of_ble_eq_true rfl) ?_
  simp only [Try.f64]
  unfold slices_Clone_ActorCall at h
  refine Wk_seq (Wk_regionZ fun Z hZ => ?_)
  simp only [go_sem, seval]
  refine hZ _ (pp (Wk_seq (Wk_seq (Wk_regionZ fun Z hZ => ?_))))
  simp only [go_sem, seval]
  refine hZ _ (pp (Wk_cond_f rfl ?_))
  first | rw [if_pos (rfl : true = true)] at h | rw [if_neg Bool.false_ne_true] at h | skip
  refine Wk_skip (pp (Wk_seq ?_))
  first | obtain ⟨ha1, h⟩ := apn_some h | (obtain ⟨ha1, h⟩ := apx_some h; rw [List.nil_append] at h)
  simp only [Nat.reduceAdd] at ha1
  refine Wk_regionZ fun Z hZ => ?_
  simp only [go_sem, seval, ha1]
  refine hZ _ (pp (Wk_ret (pp ?_)))
  cases h
  simp only [go_sem, seval]
  exact ⟨_, rfl, RokI.h⟩
theorem w_slices_Clone_ActorCall_nil (N : Nat)  (r : (List ActorCall)) (h : slices_Clone_ActorCall N [] = some r) : Con Try.prog 64 [] false [.val (.slice none 0 0)] (.sl true none 4 none (r.map ActorCall.row)) := by
  refine fun_ok4 (G := (glist [])) Try.func64 rfl (by decide) (by kernel_rfl) gn [] mix (Nat.le_of_ble_eq_true rfl) ?_
  simp only [Try.f64]
  unfold slices_Clone_ActorCall at h
  refine Wk_seq (Wk_regionZ fun Z hZ => ?_)
  simp only [go_sem, seval]
  refine hZ _ (pp (Wk_seq (Wk_seq (Wk_regionZ fun Z hZ => ?_))))
  simp only [go_sem, seval]
  refine hZ _ (pp (Wk_cond_t rfl ?_))
  first | rw [if_pos (rfl : true = true)] at h | rw [if_neg Bool.false_ne_true] at h | skip
  refine Wk_seq (Wk_regionZ fun Z hZ => ?_)
  simp only [go_sem, seval]
  refine hZ _ (pp (Wk_ret (pp ?_)))
  obtain rfl : r = [] := by simpa [apn] using h.symm
  simp only [go_sem, seval]
  exact ⟨_, rfl, RokI.h⟩
theorem w_slices_Clone_ActorCall (N : Nat) (a0 : (List ActorCall)) (r : (List ActorCall)) (h : slices_Clone_ActorCall N a0 = some r) : Con Try.prog 64 [] false [.sl false none 4 none (a0.map ActorCall.row)] (.sl true none 4 none (r.map ActorCall.row)) :=
  Con_nl (fun e => by obtain rfl : a0 = [] := List.map_eq_nil_iff.1 e; exact w_slices_Clone_ActorCall_nil N r h) (w_slices_Clone_ActorCall_nn N a0 r h)
def fs_slices_Clone_ActorCall (N : Nat) : FnS := ⟨[], false, fn1 (decL 4 ActorCall.dec) fun q0 => (slices_Clone_ActorCall N q0).map fun r => .sl false none 4 none (r.map ActorCall.row), false⟩
attribute [go_sem] fs_slices_Clone_ActorCall
theorem fs_slices_Clone_ActorCall_ok (N : Nat) : FSOk Try.prog 64 (fs_slices_Clone_ActorCall N) := ok1 (fun q0 r h => by
  obtain ⟨r', hr, rfl⟩ := Option.map_eq_some_iff.1 h
  exact (w_slices_Clone_ActorCall N q0 r' hr).res (by (try simp only [go_sem]); exact RokI.h)) (fun h => decL_le ActorCall.dec_le h)

def fso_slices_Clone_ActorCall (N : Nat) : FnS := ⟨[], false, fn1 (decL 4 ActorCall.dec) fun q0 => (slices_Clone_ActorCall N q0).map fun r => .sl true none 4 none (r.map ActorCall.row), false⟩
attribute [go_sem] fso_slices_Clone_ActorCall
theorem fso_slices_Clone_ActorCall_ok (N : Nat) : FSOk Try.prog 64 (fso_slices_Clone_ActorCall N) := ok1 (fun q0 r h => by
  obtain ⟨r', hr, rfl⟩ := Option.map_eq_some_iff.1 h
  exact w_slices_Clone_ActorCall N q0 r' hr) (fun h => decL_le ActorCall.dec_le h)


theorem w_slices_Clone_Value_nn (N : Nat) (a0 : (List Value)) (r : (List Value)) (h : slices_Clone_Value N a0 = some r) : Con Try.prog 65 [] false [.sl false (some false) 5 none (a0.map Value.row)] (.sl true none 5 none (r.map Value.row)) := by
  refine fun_ok4 (G := (glist [])) Try.func65 rfl (by decide) (by kernel_rfl) gn [] mix (Nat.le_of_ble_eq_true rfl) ?_
  simp only [Try.f65]
  unfold slices_Clone_Value at h
  refine Wk_seq (Wk_regionZ fun Z hZ => ?_)
  simp only [go_sem, seval]
  refine hZ _ (pp (Wk_seq (Wk_seq (Wk_regionZ fun Z hZ => ?_))))
  simp only [go_sem, seval]
  refine hZ _ (pp (Wk_cond_f rfl ?_))
  first | rw [if_pos (rfl : true = true)] at h | rw [if_neg Bool.false_ne_true] at h | skip
  refine Wk_skip (pp (Wk_seq ?_))
  first | obtain ⟨ha1, h⟩ := apn_some h | (obtain ⟨ha1, h⟩ := apx_some h; rw [List.nil_append] at h)
  simp only [Nat.reduceAdd] at ha1
  refine Wk_regionZ fun Z hZ => ?_
  simp only [go_sem, seval, ha1]
  refine hZ _ (pp (Wk_ret (pp ?_)))
  cases h
  simp only [go_sem, seval]
  exact ⟨_, rfl, RokI.h⟩
theorem w_slices_Clone_Value_nil (N : Nat)  (r : (List Value)) (h : slices_Clone_Value N [] = some r) : Con Try.prog 65 [] false [.val (.slice none 0 0)] (.sl true none 5 none (r.map Value.row)) := by
  refine fun_ok4 (G := (glist [])) Try.func65 rfl (by decide) (by kernel_rfl) gn [] mix (Nat.le_of_ble_eq_true rfl) ?_
  simp only [Try.f65]
  unfold slices_Clone_Value at h
  refine Wk_seq (Wk_regionZ fun Z hZ => ?_)
  simp only [go_sem, seval]
  refine hZ _ (pp (Wk_seq (Wk_seq (Wk_regionZ fun Z hZ => ?_))))
  simp only [go_sem, seval]
  refine hZ _ (pp (Wk_cond_t rfl ?_))
  first | rw [if_pos (rfl : true = true)] at h | rw [if_neg Bool.false_ne_true] at h | skip
  refine Wk_seq (Wk_regionZ fun Z hZ => ?_)
  simp only [go_sem, seval]
  refine hZ _ (pp (Wk_ret (pp ?_)))
  obtain rfl : r = [] := by simpa [apn] using h.symm
  simp only [go_sem, seval]
  exact ⟨_, rfl, RokI.h⟩
theorem w_slices_Clone_Value (N : Nat) (a0 : (List Value)) (r : (List Value)) (h : slices_Clone_Value N a0 = some r) : Con Try.prog 65 [] false [.sl false none 5 none (a0.map Value.row)] (.sl true none 5 none (r.map Value.row)) :=
  Con_nl (fun e => by obtain rfl : a0 = [] := List.map_eq_nil_iff.1 e; exact w_slices_Clone_Value_nil N r h) (w_slices_Clone_Value_nn N a0 r h)
def fs_slices_Clone_Value (N : Nat) : FnS := ⟨[], false, fn1 (decL 5 Value.dec) fun q0 => (slices_Clone_Value N q0).map fun r => .sl false none 5 none (r.map Value.row), false⟩
attribute [go_sem] fs_slices_Clone_Value
theorem fs_slices_Clone_Value_ok (N : Nat) : FSOk Try.prog 65 (fs_slices_Clone_Value N) := ok1 (fun q0 r h => by
  obtain ⟨r', hr, rfl⟩ := Option.map_eq_some_iff.1 h
  exact (w_slices_Clone_Value N q0 r' hr).res (by (try simp only [go_sem]); exact RokI.h)) (fun h => decL_le Value.dec_le h)

def fso_slices_Clone_Value (N : Nat) : FnS := ⟨[], false, fn1 (decL 5 Value.dec) fun q0 => (slices_Clone_Value N q0).map fun r => .sl true none 5 none (r.map Value.row), false⟩
attribute [go_sem] fso_slices_Clone_Value
theorem fso_slices_Clone_Value_ok (N : Nat) : FSOk Try.prog 65 (fso_slices_Clone_Value N) := ok1 (fun q0 r h => by
  obtain ⟨r', hr, rfl⟩ := Option.map_eq_some_iff.1 h
  exact w_slices_Clone_Value N q0 r' hr) (fun h => decL_le Value.dec_le h)


theorem w_slices_Clone_int_nn (N : Nat) (a0 : (List Int)) (r : (List Int)) (h : slices_Clone_int N a0 = some r) : Con Try.prog 66 [] true [.sl false (some false) 1 none (a0.map (rowI .i64))] (.sl true none 1 none (r.map (rowI .i64))) := by
  refine fun_ok4 (G := (glist [])) Try.func66 rfl (by decide) (by kernel_rfl) gn [] mix (Nat.le_of_ble_eq_true rfl) ?_
  simp only [Try.f66]
  unfold slices_Clone_int at h
  refine Wk_seq (Wk_regionZ fun Z hZ => ?_)
  simp only [go_sem, seval]
  refine hZ _ (pp (Wk_seq (Wk_seq (Wk_regionZ fun Z hZ => ?_))))
  simp only [go_sem, seval]
  refine hZ _ (pp (Wk_cond_f rfl ?_))
  first | rw [if_pos (rfl : true = true)] at h | rw [if_neg Bool.false_ne_true] at h | skip
  refine Wk_skip (pp (Wk_seq ?_))
  first | obtain ⟨ha1, h⟩ := apn_some h | (obtain ⟨ha1, h⟩ := apx_some h; rw [List.nil_append] at h)
  simp only [Nat.reduceAdd] at ha1
  refine Wk_regionZ fun Z hZ => ?_
  simp only [go_sem, seval, ha1]
  refine hZ _ (pp (Wk_ret (pp ?_)))
  cases h
  simp only [go_sem, seval]
  exact ⟨_, rfl, RokI.h, PureI.h⟩
theorem w_slices_Clone_int_nil (N : Nat)  (r : (List Int)) (h : slices_Clone_int N [] = some r) : Con Try.prog 66 [] true [.val (.slice none 0 0)] (.sl true none 1 none (r.map (rowI .i64))) := by
  refine fun_ok4 (G := (glist [])) Try.func66 rfl (by decide) (by kernel_rfl) gn [] mix (Nat.le_of_ble_eq_true rfl) ?_
  simp only [Try.f66]
  unfold slices_Clone_int at h
  refine Wk_seq (Wk_regionZ fun Z hZ => ?_)
  simp only [go_sem, seval]
  refine hZ _ (pp (Wk_seq (Wk_seq (Wk_regionZ fun Z hZ => ?_))))
  simp only [go_sem, seval]
  refine hZ _ (pp (Wk_cond_t rfl ?_))
  first | rw [if_pos (rfl : true = true)] at h | rw [if_neg Bool.false_ne_true] at h | skip
  refine Wk_seq (Wk_regionZ fun Z hZ => ?_)
  simp only [go_sem, seval]
  refine hZ _ (pp (Wk_ret (pp ?_)))
  obtain rfl : r = [] := by simpa [apn] using h.symm
  simp only [go_sem, seval]
  exact ⟨_, rfl, RokI.h, PureI.h⟩
theorem w_slices_Clone_int (N : Nat) (a0 : (List Int)) (r : (List Int)) (h : slices_Clone_int N a0 = some r) : Con Try.prog 66 [] true [.sl false none 1 none (a0.map (rowI .i64))] (.sl true none 1 none (r.map (rowI .i64))) :=
  Con_nl (fun e => by obtain rfl : a0 = [] := List.map_eq_nil_iff.1 e; exact w_slices_Clone_int_nil N r h) (w_slices_Clone_int_nn N a0 r h)
def fs_slices_Clone_int (N : Nat) : FnS := ⟨[], true, fn1 (decL 1 (dec1 (decI .i64))) fun q0 => (slices_Clone_int N q0).map fun r => .sl false none 1 none (r.map (rowI .i64)), false⟩
attribute [go_sem] fs_slices_Clone_int
theorem fs_slices_Clone_int_ok (N : Nat) : FSOk Try.prog 66 (fs_slices_Clone_int N) := ok1 (fun q0 r h => by
  obtain ⟨r', hr, rfl⟩ := Option.map_eq_some_iff.1 h
  exact (w_slices_Clone_int N q0 r' hr).res (by (try simp only [go_sem]); exact RokI.h)) (fun h => decL_le (decI1_le .i64) h)

def fso_slices_Clone_int (N : Nat) : FnS := ⟨[], true, fn1 (decL 1 (dec1 (decI .i64))) fun q0 => (slices_Clone_int N q0).map fun r => .sl true none 1 none (r.map (rowI .i64)), false⟩
attribute [go_sem] fso_slices_Clone_int
theorem fso_slices_Clone_int_ok (N : Nat) : FSOk Try.prog 66 (fso_slices_Clone_int N) := ok1 (fun q0 r h => by
  obtain ⟨r', hr, rfl⟩ := Option.map_eq_some_iff.1 h
  exact w_slices_Clone_int N q0 r' hr) (fun h => decL_le (decI1_le .i64) h)


theorem w_slices_Clone_string_nn (N : Nat) (a0 : (List ByteArray)) (r : (List ByteArray)) (h : slices_Clone_string N a0 = some r) : Con Try.prog 67 [] true [.sl false (some false) 1 none (a0.map rowS)] (.sl true none 1 none (r.map rowS)) := by
  refine fun_ok4 (G := (glist [])) Try.func67 rfl (by decide) (by kernel_rfl) gn [] mix (Nat.le_of_ble_eq_true rfl) ?_
  simp only [Try.f67]
  unfold slices_Clone_string at h
  refine Wk_seq (Wk_regionZ fun Z hZ => ?_)
  simp only [go_sem, seval]
  refine hZ _ (pp (Wk_seq (Wk_seq (Wk_regionZ fun Z hZ => ?_))))
  simp only [go_sem, seval]
  refine hZ _ (pp (Wk_cond_f rfl ?_))
  first | rw [if_pos (rfl : true = true)] at h | rw [if_neg Bool.false_ne_true] at h | skip
  refine Wk_skip (pp (Wk_seq ?_))
  first | obtain ⟨ha1, h⟩ := apn_some h | (obtain ⟨ha1, h⟩ := apx_some h; rw [List.nil_append] at h)
  simp only [Nat.reduceAdd] at ha1
  refine Wk_regionZ fun Z hZ => ?_
  simp only [go_sem, seval, ha1]
  refine hZ _ (pp (Wk_ret (pp ?_)))
  cases h
  simp only [go_sem, seval]
  exact ⟨_, rfl, RokI.h, PureI.h⟩
theorem w_slices_Clone_string_nil (N : Nat)  (r : (List ByteArray)) (h : slices_Clone_string N [] = some r) : Con Try.prog 67 [] true [.val (.slice none 0 0)] (.sl true none 1 none (r.map rowS)) := by
  refine fun_ok4 (G := (glist [])) Try.func67 rfl (by decide) (by kernel_rfl) gn [] mix (Nat.le_of_ble_eq_true rfl) ?_
  simp only [Try.f67]
  unfold slices_Clone_string at h
  refine Wk_seq (Wk_regionZ fun Z hZ => ?_)
  simp only [go_sem, seval]
  refine hZ _ (pp (Wk_seq (Wk_seq (Wk_regionZ fun Z hZ => ?_))))
  simp only [go_sem, seval]
  refine hZ _ (pp (Wk_cond_t rfl ?_))
  first | rw [if_pos (rfl : true = true)] at h | rw [if_neg Bool.false_ne_true] at h | skip
  refine Wk_seq (Wk_regionZ fun Z hZ => ?_)
  simp only [go_sem, seval]
  refine hZ _ (pp (Wk_ret (pp ?_)))
  obtain rfl : r = [] := by simpa [apn] using h.symm
  simp only [go_sem, seval]
  exact ⟨_, rfl, RokI.h, PureI.h⟩
theorem w_slices_Clone_string (N : Nat) (a0 : (List ByteArray)) (r : (List ByteArray)) (h : slices_Clone_string N a0 = some r) : Con Try.prog 67 [] true [.sl false none 1 none (a0.map rowS)] (.sl true none 1 none (r.map rowS)) :=
  Con_nl (fun e => by obtain rfl : a0 = [] := List.map_eq_nil_iff.1 e; exact w_slices_Clone_string_nil N r h) (w_slices_Clone_string_nn N a0 r h)
def fs_slices_Clone_string (N : Nat) : FnS := ⟨[], true, fn1 (decL 1 (dec1 decS)) fun q0 => (slices_Clone_string N q0).map fun r => .sl false none 1 none (r.map rowS), false⟩
attribute [go_sem] fs_slices_Clone_string
theorem fs_slices_Clone_string_ok (N : Nat) : FSOk Try.prog 67 (fs_slices_Clone_string N) := ok1 (fun q0 r h => by
  obtain ⟨r', hr, rfl⟩ := Option.map_eq_some_iff.1 h
  exact (w_slices_Clone_string N q0 r' hr).res (by (try simp only [go_sem]); exact RokI.h)) (fun h => decL_le decS1_le h)

def fso_slices_Clone_string (N : Nat) : FnS := ⟨[], true, fn1 (decL 1 (dec1 decS)) fun q0 => (slices_Clone_string N q0).map fun r => .sl true none 1 none (r.map rowS), false⟩
attribute [go_sem] fso_slices_Clone_string
theorem fso_slices_Clone_string_ok (N : Nat) : FSOk Try.prog 67 (fso_slices_Clone_string N) := ok1 (fun q0 r h => by
  obtain ⟨r', hr, rfl⟩ := Option.map_eq_some_iff.1 h
  exact w_slices_Clone_string N q0 r' hr) (fun h => decL_le decS1_le h)


noncomputable def G_session_cloneCalls (N d f : Nat) : Option FnS := glist [(8, 64, fso_slices_Clone_ActorCall N), (21, 65, fso_slices_Clone_Value N), (46, 66, fs_slices_Clone_int N), (51, 67, fs_slices_Clone_string N)] d f
attribute [go_sem] G_session_cloneCalls
theorem w_session_cloneCalls (N : Nat) (a0 : (List ActorCall)) (r : (List ActorCall)) (h : session_cloneCalls N a0 = some r) : Con Try.prog 58 [] false [.sl false none 4 none (a0.map ActorCall.row)] (.sl true none 4 none (r.map ActorCall.row)) := by
  refine fun_ok4 (G := (G_session_cloneCalls N)) Try.func58 rfl (by decide) (by kernel_rfl) (gc 8 (fso_slices_Clone_ActorCall_ok N) (gc 21 (fso_slices_Clone_Value_ok N) (gc 46 (fs_slices_Clone_int_ok N) (gc 51 (fs_slices_Clone_string_ok N) gn)))) [] mix (Nat.le_of_ble_eq_true rfl) ?_
  simp only [Try.f58]
  unfold session_cloneCalls at h
  refine Wk_seq (Wk_regionZ fun Z hZ => ?_)
  simp only [go_sem, seval]
  refine hZ _ (pp (Wk_seq ?_))
  obtain ⟨r1, hr1, h⟩ := Option.bind_eq_some_iff.1 h
  refine Wk_regionZ fun Z hZ => ?_
  simp only [go_sem, seval, hr1]
  refine hZ _ (pp (Wk_seq (Wk_seq (Wk_regionZ fun Z hZ => ?_))))
  simp only [go_sem, seval]
  refine hZ _ (pp (Wk_block (Wk_real fun hreal3 => ?_)))
  have hl2 := hreal3.lenX 8 (by simp only [go_sem, seval]; rfl)
  rw [List.length_map] at hl2
  refine Wk_count (fun (v4 : Nat) (b : List ActorCall) => ⟨tab 59 (updT (updT (updT deadT 3 (.pal 8 [] 0 b.length none)) 10 (.val (.int .i64 ((r1.length : Nat) : Int)))) 11 (.val (.int .i64 ((v4 : Nat) : Int)))), (upd RZ 8 (.sl true none 4 none (b.map ActorCall.row)))⟩) r1 h ?_ ?_
  · refine weak_roots ?_ ?_ <;> repeat' first | exact xn | exact rn | refine xc ?_ ?_ | refine rc ?_ ?_ ?_ | rfl | simp only [go_sem, seval, Bool.or_self, List.length_set, Int.natCast_zero, Int.cast_ofNat_Int, hr1]
  rintro v4 l3 _ h -
  rcases (count_cases r1.length v4).symm with ⟨hi4', hd7⟩ | ⟨hi4', hd7⟩
  · rw [hd7] at h
    simp only [session_cloneCalls_L1] at h
    refine Wk_seq (Wk_regionZ fun Z hZ => ?_)
    simp only [go_sem, seval, hi4']
    refine hZ _ (pp (Wk_seq ?_))
    try simp only [Int.ofNat_lt, hi4', if_true, if_false] at h
    refine Wk_cond_f rfl (Wk_exit (pp (Wk_seq (Wk_regionZ fun Z hZ => ?_))))
    simp only [go_sem, seval]
    refine hZ _ (pp (Wk_ret (pp ?_)))
    cases h
    simp only [go_sem, seval]
    exact ⟨_, rfl, RokI.h⟩
  rw [hd7] at h
  simp only [session_cloneCalls_L1] at h
  have hw6 := wrap_succ hi4' hl2
  refine Wk_seq (Wk_regionZ fun Z hZ => ?_)
  simp only [go_sem, seval, hi4']
  refine hZ _ (pp (Wk_seq ?_))
  try simp only [Int.ofNat_lt, hi4', if_true, if_false] at h
  refine Wk_cond_t rfl (Wk_skip (pp (Wk_seq (Wk_block (Wk_seq (Wk_regionZ fun Z hZ => ?_))))))
  simp only [go_sem, seval]
  refine hZ _ (pp (Wk_seq ?_))
  obtain ⟨x2, hb8, hx9, h⟩ := gx_some h
  try simp only [Int.toNat_natCast] at hx9
  try simp only [Int.ofNat_lt, Int.natCast_nonneg, true_and] at hb8
  obtain ⟨r3, hr10, h⟩ := Option.bind_eq_some_iff.1 h
  refine Wk_regionZ fun Z hZ => ?_
  simp only [go_sem, seval, hb8, hx9, hr10, over_of (row := ActorCall.row) (rx := [.val (.string x2.Target.Type_), .val (.string x2.Target.Key), .val (.string x2.Method), .sl false none 5 none (x2.Args.map Value.row)]) hx9 rfl rfl]
  refine hZ _ (pp (Wk_seq (Wk_regionZ fun Z hZ => ?_)))
  simp only [go_sem, seval, hb8, over_get (row := ActorCall.row) _ hx9]
  refine hZ _ (pp (Wk_block (Wk_real fun hreal12 => ?_)))
  have hl11 := hreal12.lenAt 8 [(v4, 3)] (by simp only [go_sem, seval, over_get (row := ActorCall.row) _ hx9]; rfl)
  rw [List.length_map] at hl11
  refine Wk_count (fun (v12 : Nat) (b : List Value) => ⟨tab 59 (updT (updT (updT (updT (updT (updT deadT 3 (.pal 8 [] 0 l3.length none)) 4 (.val (.int .i64 ((v4 : Nat) : Int)))) 10 (.val (.int .i64 ((r1.length : Nat) : Int)))) 11 (.val (.int .i64 ((v4 : Nat) : Int)))) 29 (.val (.int .i64 ((r3.length : Nat) : Int)))) 30 (.val (.int .i64 ((v12 : Nat) : Int)))), (upd RZ 8 (.sl true none 4 none ((l3.map ActorCall.row).set v4 [.val (.string x2.Target.Type_), .val (.string x2.Target.Key), .val (.string x2.Method), .sl true none 5 none (b.map Value.row)])))⟩) r3 h ?_ ?_
  · refine weak_roots ?_ ?_ <;> repeat' first | exact xn | exact rn | refine xc ?_ ?_ | refine rc ?_ ?_ ?_ | rfl | simp only [go_sem, seval, Bool.or_self, List.length_set, Int.natCast_zero, Int.cast_ofNat_Int, hr1, hi4', hw6, hb8, hx9, hr10, over_of (row := ActorCall.row) (rx := [.val (.string x2.Target.Type_), .val (.string x2.Target.Key), .val (.string x2.Method), .sl false none 5 none (x2.Args.map Value.row)]) hx9 rfl rfl, over_get (row := ActorCall.row) _ hx9, over_mod (row := ActorCall.row) hx9 rfl]
  rintro v12 l11 _ h -
  rcases (count_cases r3.length v12).symm with ⟨hi13', hd16⟩ | ⟨hi13', hd16⟩
  · rw [hd16] at h
    simp only [session_cloneCalls_L2] at h
    refine Wk_seq (Wk_regionZ fun Z hZ => ?_)
    simp only [go_sem, seval, hi13']
    refine hZ _ (pp (Wk_seq ?_))
    try simp only [Int.ofNat_lt, hi4', hi13', if_true, if_false] at h
    refine Wk_cond_f rfl (Wk_exit (pp (Wk_regionZ fun Z hZ => ?_)))
    simp only [go_sem, seval, hw6]
    refine hZ _ (pp ?_)
    first | refine ⟨(l3.set v4 (ActorCall.mk x2.Target x2.Method l11)), ?_, h⟩ | refine ⟨hi4', (l3.set v4 (ActorCall.mk x2.Target x2.Method l11)), ?_, h⟩
    refine Weak.trans (weak_fold (n := 8) (ActorCall.mk x2.Target x2.Method l11) [.val (.string x2.Target.Type_), .val (.string x2.Target.Key), .val (.string x2.Method), .sl false none 5 none (l11.map Value.row)] (by simp only [go_sem, seval]; rfl) rfl) ?_
    refine weak_roots ?_ ?_ <;> repeat' first | exact xn | exact rn | refine xc ?_ ?_ | refine rc ?_ ?_ ?_ | rfl | simp only [go_sem, seval, List.length_set]
  rw [hd16] at h
  simp only [session_cloneCalls_L2] at h
  have hw15 := wrap_succ hi13' hl11
  refine Wk_seq (Wk_regionZ fun Z hZ => ?_)
  simp only [go_sem, seval, hi13']
  refine hZ _ (pp (Wk_seq ?_))
  try simp only [Int.ofNat_lt, hi4', hi13', if_true, if_false] at h
  refine Wk_cond_t rfl (Wk_skip (pp (Wk_seq (Wk_block (Wk_seq (Wk_regionZ fun Z hZ => ?_))))))
  simp only [go_sem, seval]
  refine hZ _ (pp (Wk_seq ?_))
  obtain ⟨x4, hb17, hx18, h⟩ := gx_some h
  try simp only [Int.toNat_natCast] at hx18
  try simp only [Int.ofNat_lt, Int.natCast_nonneg, true_and] at hb17
  obtain rfl := get_same hx9 hx18
  obtain ⟨x5, hb19, hx20, h⟩ := gx_some h
  try simp only [Int.toNat_natCast] at hx20
  try simp only [Int.ofNat_lt, Int.natCast_nonneg, true_and] at hb19
  refine Wk_regionZ fun Z hZ => ?_
  simp only [go_sem, seval, hb8, over_get (row := ActorCall.row) _ hx9, hb19]
  refine hZ _ (pp ?_)
  obtain ⟨r6, hr21, h⟩ := Option.bind_eq_some_iff.1 h
  obtain ⟨r7, hr22, h⟩ := Option.bind_eq_some_iff.1 h
  have hx24 := set_get (y := (Value.mk x5.Kind x5.N x5.S r6 x5.L)) hx20
  have hx26 := set_get (y := (Value.mk x5.Kind x5.N x5.S r6 r7)) hx20
  refine Wk_regionD fun Z hZ => ?_
  simp only [go_sem, seval, over_get (row := ActorCall.row) _ hx9, over_mod (row := ActorCall.row) hx9 rfl, hx20, hr21, hr22, map_modify2 (row := Value.row) (y := (Value.mk x5.Kind x5.N x5.S r6 x5.L)) (rx := [.val (.int .i64 x5.Kind), .val (.int .i64 x5.N), .val (.string x5.S), .sl false none 1 none (x5.I.map (rowI .i64)), .sl false none 1 none (x5.L.map rowS)]) (ry := [.val (.int .i64 x5.Kind), .val (.int .i64 x5.N), .val (.string x5.S), .sl false none 1 none (r6.map (rowI .i64)), .sl false none 1 none (x5.L.map rowS)]) hx20 rfl rfl, hx24, map_modify3 (row := Value.row) (y0 := (Value.mk x5.Kind x5.N x5.S r6 x5.L)) (y := (Value.mk x5.Kind x5.N x5.S r6 r7)) (rx := [.val (.int .i64 x5.Kind), .val (.int .i64 x5.N), .val (.string x5.S), .sl false none 1 none (r6.map (rowI .i64)), .sl false none 1 none (x5.L.map rowS)]) (ry := [.val (.int .i64 x5.Kind), .val (.int .i64 x5.N), .val (.string x5.S), .sl false none 1 none (r6.map (rowI .i64)), .sl false none 1 none (r7.map rowS)]) hx20 rfl rfl]
  repeat with_reducible refine and_bar (by kernel_rfl) ?_
  refine hZ _ (by kernel_rfl) (pp (Wk_regionZ fun Z hZ => ?_))
  simp only [go_sem, seval, hw15]
  refine hZ _ (pp ?_)
  first | refine ⟨(l11.set v12 (Value.mk x5.Kind x5.N x5.S r6 r7)), ?_, h⟩ | refine ⟨hi13', (l11.set v12 (Value.mk x5.Kind x5.N x5.S r6 r7)), ?_, h⟩
  refine weak_roots ?_ ?_ <;> repeat' first | exact xn | exact rn | refine xc ?_ ?_ | refine rc ?_ ?_ ?_ | rfl | simp only [go_sem, seval, Bool.or_self, List.length_set, Int.natCast_zero, Int.cast_ofNat_Int, hr1, hi4', hw6, hb8, hx9, hr10, over_of (row := ActorCall.row) (rx := [.val (.string x2.Target.Type_), .val (.string x2.Target.Key), .val (.string x2.Method), .sl false none 5 none (x2.Args.map Value.row)]) hx9 rfl rfl, over_get (row := ActorCall.row) _ hx9, over_mod (row := ActorCall.row) hx9 rfl, hi13', hw15, hb17, hb19, hx20, hr21, hr22, map_modify2 (row := Value.row) (y := (Value.mk x5.Kind x5.N x5.S r6 x5.L)) (rx := [.val (.int .i64 x5.Kind), .val (.int .i64 x5.N), .val (.string x5.S), .sl false none 1 none (x5.I.map (rowI .i64)), .sl false none 1 none (x5.L.map rowS)]) (ry := [.val (.int .i64 x5.Kind), .val (.int .i64 x5.N), .val (.string x5.S), .sl false none 1 none (r6.map (rowI .i64)), .sl false none 1 none (x5.L.map rowS)]) hx20 rfl rfl, hx24, map_modify2 (row := Value.row) (y := (Value.mk x5.Kind x5.N x5.S r6 r7)) (rx := [.val (.int .i64 x5.Kind), .val (.int .i64 x5.N), .val (.string x5.S), .sl false none 1 none (x5.I.map (rowI .i64)), .sl false none 1 none (x5.L.map rowS)]) (ry := [.val (.int .i64 x5.Kind), .val (.int .i64 x5.N), .val (.string x5.S), .sl false none 1 none (r6.map (rowI .i64)), .sl false none 1 none (r7.map rowS)]) hx20 rfl rfl, map_modify3 (row := Value.row) (y0 := (Value.mk x5.Kind x5.N x5.S r6 x5.L)) (y := (Value.mk x5.Kind x5.N x5.S r6 r7)) (rx := [.val (.int .i64 x5.Kind), .val (.int .i64 x5.N), .val (.string x5.S), .sl false none 1 none (r6.map (rowI .i64)), .sl false none 1 none (x5.L.map rowS)]) (ry := [.val (.int .i64 x5.Kind), .val (.int .i64 x5.N), .val (.string x5.S), .sl false none 1 none (r6.map (rowI .i64)), .sl false none 1 none (r7.map rowS)]) hx20 rfl rfl, hx26]
def fs_session_cloneCalls (N : Nat) : FnS := ⟨[], false, fn1 (decL 4 ActorCall.dec) fun q0 => (session_cloneCalls N q0).map fun r => .sl false none 4 none (r.map ActorCall.row), false⟩
attribute [go_sem] fs_session_cloneCalls
theorem fs_session_cloneCalls_ok (N : Nat) : FSOk Try.prog 58 (fs_session_cloneCalls N) := ok1 (fun q0 r h => by
  obtain ⟨r', hr, rfl⟩ := Option.map_eq_some_iff.1 h
  exact (w_session_cloneCalls N q0 r' hr).res (by (try simp only [go_sem]); exact RokI.h)) (fun h => decL_le ActorCall.dec_le h)

def fso_session_cloneCalls (N : Nat) : FnS := ⟨[], false, fn1 (decL 4 ActorCall.dec) fun q0 => (session_cloneCalls N q0).map fun r => .sl true none 4 none (r.map ActorCall.row), false⟩
attribute [go_sem] fso_session_cloneCalls
theorem fso_session_cloneCalls_ok (N : Nat) : FSOk Try.prog 58 (fso_session_cloneCalls N) := ok1 (fun q0 r h => by
  obtain ⟨r', hr, rfl⟩ := Option.map_eq_some_iff.1 h
  exact w_session_cloneCalls N q0 r' hr) (fun h => decL_le ActorCall.dec_le h)


noncomputable def G_session_cloneSubmission (N d f : Nat) : Option FnS := glist [(5, 58, fso_session_cloneCalls N)] d f
attribute [go_sem] G_session_cloneSubmission
theorem w_session_cloneSubmission (N : Nat) (a0 : Submission) (r : Submission) (h : session_cloneSubmission N a0 = some r) : Con Try.prog 40 [] false [.agg (Submission.row a0)] (.agg [.val (.string r.Client), .val (.int .i64 r.Seq), .val (.int .i64 r.Acked), .val (.bool r.Atomic), .sl true none 4 none (r.Calls.map ActorCall.row)]) := by
  refine fun_ok4 (G := (G_session_cloneSubmission N)) Try.func40 rfl (by decide) (by kernel_rfl) (gc 5 (fso_session_cloneCalls_ok N) gn) [] mix (Nat.le_of_ble_eq_true rfl) ?_
  simp only [Try.f40]
  unfold session_cloneSubmission at h
  refine Wk_seq (Wk_regionZ fun Z hZ => ?_)
  simp only [go_sem, seval]
  refine hZ _ (pp (Wk_seq ?_))
  obtain ⟨r1, hr1, h⟩ := Option.bind_eq_some_iff.1 h
  refine Wk_regionZ fun Z hZ => ?_
  simp only [go_sem, seval, hr1]
  refine hZ _ (pp (Wk_seq (Wk_regionZ fun Z hZ => ?_)))
  simp only [go_sem, seval]
  refine hZ _ (pp (Wk_ret (pp ?_)))
  cases h
  simp only [go_sem, seval]
  exact ⟨_, rfl, RokI.h⟩
def fs_session_cloneSubmission (N : Nat) : FnS := ⟨[], false, fn1 Submission.decA fun q0 => (session_cloneSubmission N q0).map fun r => .agg (Submission.row r), false⟩
attribute [go_sem] fs_session_cloneSubmission
theorem fs_session_cloneSubmission_ok (N : Nat) : FSOk Try.prog 40 (fs_session_cloneSubmission N) := ok1 (fun q0 r h => by
  obtain ⟨r', hr, rfl⟩ := Option.map_eq_some_iff.1 h
  exact (w_session_cloneSubmission N q0 r' hr).res (by (try simp only [go_sem]); exact RokI.h)) (Submission.decA_le)

def fso_session_cloneSubmission (N : Nat) : FnS := ⟨[], false, fn1 Submission.decA fun q0 => (session_cloneSubmission N q0).map fun r => .agg [.val (.string r.Client), .val (.int .i64 r.Seq), .val (.int .i64 r.Acked), .val (.bool r.Atomic), .sl true none 4 none (r.Calls.map ActorCall.row)], false⟩
attribute [go_sem] fso_session_cloneSubmission
theorem fso_session_cloneSubmission_ok (N : Nat) : FSOk Try.prog 40 (fso_session_cloneSubmission N) := ok1 (fun q0 r h => by
  obtain ⟨r', hr, rfl⟩ := Option.map_eq_some_iff.1 h
  exact w_session_cloneSubmission N q0 r' hr) (Submission.decA_le)


noncomputable def G_session_clone (N d f : Nat) : Option FnS := glist [(6, 57, fso_slices_Clone_PendingSubmission N), (23, 40, fs_session_cloneSubmission N)] d f
attribute [go_sem] G_session_clone
theorem w_session_clone (N : Nat) (a0 : Session) (r : Session) (h : session_clone N a0 = some r) : Con Try.prog 39 [] false [.agg (Session.row a0)] (.agg [.val (.string r.Name), .val (.int .i64 r.Next), .sl true none 6 none (r.Open.map PendingSubmission.row)]) := by
  refine fun_ok4 (G := (G_session_clone N)) Try.func39 rfl (by decide) (by kernel_rfl) (gc 6 (fso_slices_Clone_PendingSubmission_ok N) (gc 23 (fs_session_cloneSubmission_ok N) gn)) [] mix (Nat.le_of_ble_eq_true rfl) ?_
  simp only [Try.f39]
  unfold session_clone at h
  refine Wk_seq (Wk_regionZ fun Z hZ => ?_)
  simp only [go_sem, seval]
  refine hZ _ (pp (Wk_seq ?_))
  obtain ⟨r1, hr1, h⟩ := Option.bind_eq_some_iff.1 h
  refine Wk_regionZ fun Z hZ => ?_
  simp only [go_sem, seval, hr1]
  refine hZ _ (pp (Wk_seq (Wk_seq (Wk_regionZ fun Z hZ => ?_))))
  simp only [go_sem, seval]
  refine hZ _ (pp (Wk_block (Wk_real fun hreal3 => ?_)))
  have hl2 := hreal3.cell 1 2 (by simp only [go_sem, seval]; rfl) rfl
  rw [List.length_map] at hl2
  refine Wk_count (fun (v4 : Nat) (b : List PendingSubmission) => ⟨tab 28 (updT (updT (updT (updT deadT 1 (.pref 1 [] 0 0)) 2 (.pref 2 [] 0 0)) 10 (.val (.int .i64 ((r1.length : Nat) : Int)))) 11 (.val (.int .i64 ((v4 : Nat) : Int)))), (upd (upd RZ 1 (.sl true none 3 (some 1) [[.val (.string a0.Name), .val (.int .i64 a0.Next), .sl true none 6 none (b.map PendingSubmission.row)]])) 2 (.sl true none 3 (some 1) [[.val (.string (⟨#[]⟩)), .val (.int .i64 0), .val (.slice none 0 0)]]))⟩) r1 h ?_ ?_
  · refine weak_roots ?_ ?_ <;> repeat' first | exact xn | exact rn | refine xc ?_ ?_ | refine rc ?_ ?_ ?_ | rfl
  rintro v4 l3 _ h -
  rcases (count_cases r1.length v4).symm with ⟨hi4', hd7⟩ | ⟨hi4', hd7⟩
  · rw [hd7] at h
    simp only [session_clone_L1] at h
    refine Wk_seq (Wk_regionZ fun Z hZ => ?_)
    simp only [go_sem, seval, hi4']
    refine hZ _ (pp (Wk_seq ?_))
    try simp only [Int.ofNat_lt, hi4', if_true, if_false] at h
    refine Wk_cond_f rfl (Wk_exit (pp (Wk_seq (Wk_regionZ fun Z hZ => ?_))))
    simp only [go_sem, seval]
    refine hZ _ (pp (Wk_ret (pp ?_)))
    cases h
    simp only [go_sem, seval]
    exact ⟨_, rfl, RokI.h⟩
  rw [hd7] at h
  simp only [session_clone_L1] at h
  have hw6 := wrap_succ hi4' hl2
  refine Wk_seq (Wk_regionZ fun Z hZ => ?_)
  simp only [go_sem, seval, hi4']
  refine hZ _ (pp (Wk_seq ?_))
  try simp only [Int.ofNat_lt, hi4', if_true, if_false] at h
  refine Wk_cond_t rfl (Wk_skip (pp (Wk_seq (Wk_block (Wk_seq (Wk_regionZ fun Z hZ => ?_))))))
  simp only [go_sem, seval]
  refine hZ _ (pp ?_)
  obtain ⟨x2, hb8, hx9, h⟩ := gx_some h
  try simp only [Int.toNat_natCast] at hx9
  try simp only [Int.ofNat_lt, Int.natCast_nonneg, true_and] at hb8
  obtain ⟨r3, hr10, h⟩ := Option.bind_eq_some_iff.1 h
  have hx12 := set_get (y := (PendingSubmission.mk r3 x2.Sent)) hx9
  refine Wk_regionD fun Z hZ => ?_
  simp only [go_sem, seval, hb8, hx9, hr10, map_modify2 (row := PendingSubmission.row) (y := (PendingSubmission.mk r3 x2.Sent)) (rx := [.val (.string x2.Submission_.Client), .val (.int .i64 x2.Submission_.Seq), .val (.int .i64 x2.Submission_.Acked), .val (.bool x2.Submission_.Atomic), .sl false none 4 none (x2.Submission_.Calls.map ActorCall.row), .val (.int .i64 x2.Sent)]) (ry := [.val (.string r3.Client), .val (.int .i64 r3.Seq), .val (.int .i64 r3.Acked), .val (.bool r3.Atomic), .sl false none 4 none (r3.Calls.map ActorCall.row), .val (.int .i64 x2.Sent)]) hx9 rfl rfl]
  repeat with_reducible refine and_bar (by kernel_rfl) ?_
  refine hZ _ (by kernel_rfl) (pp (Wk_regionZ fun Z hZ => ?_))
  simp only [go_sem, seval, hw6]
  refine hZ _ (pp ?_)
  first | refine ⟨(l3.set v4 (PendingSubmission.mk r3 x2.Sent)), ?_, h⟩ | refine ⟨hi4', (l3.set v4 (PendingSubmission.mk r3 x2.Sent)), ?_, h⟩
  refine weak_roots ?_ ?_ <;> repeat' first | exact xn | exact rn | refine xc ?_ ?_ | refine rc ?_ ?_ ?_ | rfl
def fs_session_clone (N : Nat) : FnS := ⟨[], false, fn1 Session.decA fun q0 => (session_clone N q0).map fun r => .agg (Session.row r), false⟩
attribute [go_sem] fs_session_clone
theorem fs_session_clone_ok (N : Nat) : FSOk Try.prog 39 (fs_session_clone N) := ok1 (fun q0 r h => by
  obtain ⟨r', hr, rfl⟩ := Option.map_eq_some_iff.1 h
  exact (w_session_clone N q0 r' hr).res (by (try simp only [go_sem]); exact RokI.h)) (Session.decA_le)

def fso_session_clone (N : Nat) : FnS := ⟨[], false, fn1 Session.decA fun q0 => (session_clone N q0).map fun r => .agg [.val (.string r.Name), .val (.int .i64 r.Next), .sl true none 6 none (r.Open.map PendingSubmission.row)], false⟩
attribute [go_sem] fso_session_clone
theorem fso_session_clone_ok (N : Nat) : FSOk Try.prog 39 (fso_session_clone N) := ok1 (fun q0 r h => by
  obtain ⟨r', hr, rfl⟩ := Option.map_eq_some_iff.1 h
  exact w_session_clone N q0 r' hr) (Session.decA_le)


noncomputable def G_session_Submit (N d f : Nat) : Option FnS := glist [(14, 17, fs_session_Valid N), (18, 37, fs_session_validTime N), (28, 38, fs_session_acknowledged N), (34, 11, fs_session_ValidSubmission N), (52, 39, fso_session_clone N), (56, 40, fs_session_cloneSubmission N), (68, 40, fso_session_cloneSubmission N)] d f
attribute [go_sem] G_session_Submit
theorem w_session_Submit (N : Nat) (a0 : Session) (a1 : Int) (a2 : Bool) (a3 : (List ActorCall)) (r : Session × Submission × Int) (h : session_Submit N a0 a1 a2 a3 = some r) : Con Try.prog 21 [] false [.agg (Session.row a0), .val (.int .i64 a1), .val (.bool a2), .sl false none 4 none (a3.map ActorCall.row)] (.tup [.agg [.val (.string r.1.Name), .val (.int .i64 r.1.Next), .sl true none 6 none (r.1.Open.map PendingSubmission.row)], .agg [.val (.string r.2.1.Client), .val (.int .i64 r.2.1.Seq), .val (.int .i64 r.2.1.Acked), .val (.bool r.2.1.Atomic), .sl true none 4 none (r.2.1.Calls.map ActorCall.row)], .val (.int .i64 r.2.2)]) := by
  refine fun_ok4 (G := (G_session_Submit N)) Try.func21 rfl (by decide) (by kernel_rfl) (gc 14 (fs_session_Valid_ok N) (gc 18 (fs_session_validTime_ok N) (gc 28 (fs_session_acknowledged_ok N) (gc 34 (fs_session_ValidSubmission_ok N) (gc 52 (fso_session_clone_ok N) (gc 56 (fs_session_cloneSubmission_ok N) (gc 68 (fso_session_cloneSubmission_ok N) gn))))))) [] mix (Nat.le_of_ble_eq_true rfl) ?_
  simp only [Try.f21]
  unfold session_Submit at h
  refine Wk_seq (Wk_regionZ fun Z hZ => ?_)
  simp only [go_sem, seval]
  refine hZ _ (pp (Wk_seq ?_))
  apply Wk_join1 (fun (c7 : Bool) => ⟨tab 69 (updT (updT (updT (updT (updT (updT (updT deadT 1 (.val (.int .i64 a1))) 2 (.val (.bool a2))) 3 (.sl false none 4 none (a3.map ActorCall.row))) 4 (.pref 4 [] 0 0)) 8 (.pref 8 [] 0 0)) 9 (.pref 9 [] 0 0)) 20 (.val (.bool c7))), (upd (upd (upd RZ 4 (.sl true none 3 (some 1) [Session.row a0])) 8 (.sl true none 3 (some 1) [[.val (.string (⟨#[]⟩)), .val (.int .i64 0), .val (.slice none 0 0)]])) 9 (.sl true none 5 (some 1) [[.val (.string (⟨#[]⟩)), .val (.int .i64 0), .val (.int .i64 0), .val (.bool false), .val (.slice none 0 0)]]))⟩)
  · intro hJ1
    obtain ⟨r8, hr2, h⟩ := Option.bind_eq_some_iff.1 h
    refine Wk_regionZ fun Z hZ => ?_
    simp only [go_sem, seval, hr2]
    refine RX_guard_nbool rfl (fun hc3 => ?_) (fun hc3 => ?_)
    · rw [if_neg (ne_true_of_eq_false hc3)] at h
      simp only [go_sem, seval, hc3]
      refine hZ _ (pp (hJ1 _ true ?_ h))
      refine weak_roots ?_ ?_ <;> repeat' first | exact xn | exact rn | refine xc ?_ ?_ | refine rc ?_ ?_ ?_ | rfl | simp only [go_sem, seval, Bool.or_self, List.length_set, Int.natCast_zero, Int.cast_ofNat_Int, hr2, hc3]
    rw [if_pos hc3] at h
    obtain ⟨r9, hr4, h⟩ := Option.bind_eq_some_iff.1 h
    simp only [go_sem, seval, hc3, hr4]
    refine hZ _ (pp (hJ1 _ (!r9) ?_ h))
    refine weak_roots ?_ ?_ <;> repeat' first | exact xn | exact rn | refine xc ?_ ?_ | refine rc ?_ ?_ ?_ | rfl | simp only [go_sem, seval, Bool.or_self, List.length_set, Int.natCast_zero, Int.cast_ofNat_Int, hr2, hc3, hr4]
  intro c7 h
  unfold session_Submit_J1 at h
  refine Wk_cond_bool rfl (fun hc5 => ?_) (fun hc5 => ?_)
  · rw [if_pos hc5] at h
    refine Wk_seq (Wk_regionZ fun Z hZ => ?_)
    simp only [go_sem, seval, hc5]
    refine hZ _ (pp (Wk_ret (pp ?_)))
    cases h
    simp only [go_sem, seval]
    exact ⟨_, rfl, RokI.h⟩
  rw [if_neg (ne_true_of_eq_false hc5)] at h
  refine Wk_skip (pp ?_)
  unfold session_Submit_J4 at h
  refine Wk_seq ?_
  obtain ⟨r10, hr6, h⟩ := Option.bind_eq_some_iff.1 h
  refine Wk_regionD fun Z hZ => ?_
  simp only [go_sem, seval, hc5, hr6]
  repeat with_reducible refine and_bar (by kernel_rfl) ?_
  refine hZ _ (by kernel_rfl) (pp (Wk_seq (Wk_block (Wk_seq ?_))))
  obtain ⟨r14, hr7, h⟩ := Option.bind_eq_some_iff.1 h
  refine Wk_regionZ fun Z hZ => ?_
  simp only [go_sem, seval, hr7]
  refine hZ _ (pp (Wk_cond_nbool rfl (fun hc8 => ?_) (fun hc8 => ?_)))
  · rw [if_neg (ne_true_of_eq_false hc8)] at h
    refine Wk_seq (Wk_regionZ fun Z hZ => ?_)
    simp only [go_sem, seval, hc8]
    refine hZ _ (pp (Wk_ret (pp ?_)))
    cases h
    simp only [go_sem, seval]
    exact ⟨_, rfl, RokI.h⟩
  rw [if_pos hc8] at h
  apply Wk_join1 (fun (c15 : Bool) => ⟨tab 69 (updT (updT (updT (updT (updT (updT deadT 1 (.val (.int .i64 a1))) 4 (.pref 4 [] 0 0)) 8 (.pref 8 [] 0 0)) 9 (.pref 9 [] 0 0)) 11 (.pref 11 [] 0 0)) 38 (.val (.bool c15))), (upd (upd (upd (upd RZ 4 (.sl true none 3 (some 1) [Session.row a0])) 8 (.sl true none 3 (some 1) [[.val (.string (⟨#[]⟩)), .val (.int .i64 0), .val (.slice none 0 0)]])) 9 (.sl true none 5 (some 1) [[.val (.string (⟨#[]⟩)), .val (.int .i64 0), .val (.int .i64 0), .val (.bool false), .val (.slice none 0 0)]])) 11 (.sl true none 5 (some 1) [[.val (.string a0.Name), .val (.int .i64 a0.Next), .val (.int .i64 r10), .val (.bool a2), .sl false none 4 none (a3.map ActorCall.row)]]))⟩)
  · intro hJ9
    refine Wk_seq (Wk_regionZ fun Z hZ => ?_)
    simp only [go_sem, seval, hc8]
    refine hZ _ (pp (Wk_cond_dec rfl (fun hc10 => ?_) (fun hc10 => ?_)))
    · have hc10d := decide_eq_true hc10
      rw [if_pos hc10] at h
      refine Wk_skip (pp (hJ9 _ true ?_ h))
      refine weak_roots ?_ ?_ <;> repeat' first | exact xn | exact rn | refine xc ?_ ?_ | refine rc ?_ ?_ ?_ | rfl | simp only [go_sem, seval, hc10d]
    have hc10d := decide_eq_false hc10
    rw [if_neg hc10] at h
    refine Wk_regionZ fun Z hZ => ?_
    simp only [go_sem, seval, hc10d]
    refine hZ _ (pp (hJ9 _ (decide ((IntKind.i64.wrap ((IntKind.i64.wrap (a0.Next - 1)) - r10)) = 16)) ?_ h))
    refine weak_roots ?_ ?_ <;> repeat' first | exact xn | exact rn | refine xc ?_ ?_ | refine rc ?_ ?_ ?_ | rfl | simp only [go_sem, seval, Bool.or_self, List.length_set, Int.natCast_zero, Int.cast_ofNat_Int, hc5, hr6, hr7, hc8, hc10d]
  intro c15 h
  unfold session_Submit_J2 at h
  refine Wk_cond_bool rfl (fun hc11 => ?_) (fun hc11 => ?_)
  · rw [if_pos hc11] at h
    refine Wk_seq (Wk_regionZ fun Z hZ => ?_)
    simp only [go_sem, seval, hc11]
    refine hZ _ (pp (Wk_ret (pp ?_)))
    cases h
    simp only [go_sem, seval]
    exact ⟨_, rfl, RokI.h⟩
  rw [if_neg (ne_true_of_eq_false hc11)] at h
  refine Wk_skip (pp ?_)
  unfold session_Submit_J3 at h
  refine Wk_seq ?_
  obtain ⟨r16, hr12, h⟩ := Option.bind_eq_some_iff.1 h
  refine Wk_regionZ fun Z hZ => ?_
  simp only [go_sem, seval, hc11, hr12]
  refine hZ _ (pp (Wk_seq ?_))
  obtain ⟨r17, hr13, h⟩ := Option.bind_eq_some_iff.1 h
  obtain ⟨ha14, h⟩ := apx_some h
  simp only [List.length_cons, List.length_nil, Nat.zero_add, Nat.reduceAdd] at ha14
  refine Wk_regionD fun Z hZ => ?_
  simp only [go_sem, seval, hr13, ha14]
  repeat with_reducible refine and_bar (by kernel_rfl) ?_
  refine hZ _ (by kernel_rfl) (pp (Wk_seq (Wk_regionZ fun Z hZ => ?_)))
  simp only [go_sem, seval]
  refine hZ _ (pp (Wk_seq ?_))
  obtain ⟨r18, hr15, h⟩ := Option.bind_eq_some_iff.1 h
  obtain rfl := Option.some.inj (hr13.symm.trans hr15)
  refine Wk_regionD fun Z hZ => ?_
  simp only [go_sem, seval, hr13]
  repeat with_reducible refine and_bar (by kernel_rfl) ?_
  refine hZ _ (by kernel_rfl) (pp (Wk_ret (pp ?_)))
  cases h
  simp only [go_sem, seval]
  exact ⟨_, rfl, RokI.h⟩
def fs_session_Submit (N : Nat) : FnS := ⟨[], false, fn4 Session.decA (decI .i64) decB (decL 4 ActorCall.dec) fun q0 q1 q2 q3 => (session_Submit N q0 q1 q2 q3).map fun r => .tup [.agg (Session.row r.1), .agg (Submission.row r.2.1), .val (.int .i64 r.2.2)], false⟩
attribute [go_sem] fs_session_Submit
theorem fs_session_Submit_ok (N : Nat) : FSOk Try.prog 21 (fs_session_Submit N) := ok4 (fun q0 q1 q2 q3 r h => by
  obtain ⟨r', hr, rfl⟩ := Option.map_eq_some_iff.1 h
  exact (w_session_Submit N q0 q1 q2 q3 r' hr).res (by (try simp only [go_sem]); exact RokI.h)) (Session.decA_le) (decI_le) (decB_le) (fun h => decL_le ActorCall.dec_le h)

def fso_session_Submit (N : Nat) : FnS := ⟨[], false, fn4 Session.decA (decI .i64) decB (decL 4 ActorCall.dec) fun q0 q1 q2 q3 => (session_Submit N q0 q1 q2 q3).map fun r => .tup [.agg [.val (.string r.1.Name), .val (.int .i64 r.1.Next), .sl true none 6 none (r.1.Open.map PendingSubmission.row)], .agg [.val (.string r.2.1.Client), .val (.int .i64 r.2.1.Seq), .val (.int .i64 r.2.1.Acked), .val (.bool r.2.1.Atomic), .sl true none 4 none (r.2.1.Calls.map ActorCall.row)], .val (.int .i64 r.2.2)], false⟩
attribute [go_sem] fso_session_Submit
theorem fso_session_Submit_ok (N : Nat) : FSOk Try.prog 21 (fso_session_Submit N) := ok4 (fun q0 q1 q2 q3 r h => by
  obtain ⟨r', hr, rfl⟩ := Option.map_eq_some_iff.1 h
  exact w_session_Submit N q0 q1 q2 q3 r' hr) (Session.decA_le) (decI_le) (decB_le) (fun h => decL_le ActorCall.dec_le h)


noncomputable def G_session_Acknowledged (N d f : Nat) : Option FnS := glist [(4, 17, fs_session_Valid N), (7, 38, fs_session_acknowledged N)] d f
attribute [go_sem] G_session_Acknowledged
theorem w_session_Acknowledged (N : Nat) (a0 : Session) (r : Int) (h : session_Acknowledged N a0 = some r) : Con Try.prog 18 [] true [.agg (Session.row a0)] (.val (.int .i64 r)) := by
  refine fun_ok4 (G := (G_session_Acknowledged N)) Try.func18 rfl (by decide) (by kernel_rfl) (gc 4 (fs_session_Valid_ok N) (gc 7 (fs_session_acknowledged_ok N) gn)) [] mix (Nat.le_of_ble_eq_true rfl) ?_
  simp only [Try.f18]
  unfold session_Acknowledged at h
  refine Wk_seq (Wk_regionZ fun Z hZ => ?_)
  simp only [go_sem, seval]
  refine hZ _ (pp (Wk_seq (Wk_seq ?_)))
  obtain ⟨r1, hr1, h⟩ := Option.bind_eq_some_iff.1 h
  refine Wk_regionZ fun Z hZ => ?_
  simp only [go_sem, seval, hr1]
  refine hZ _ (pp (Wk_cond_nbool rfl (fun hc2 => ?_) (fun hc2 => ?_)))
  · rw [if_neg (ne_true_of_eq_false hc2)] at h
    refine Wk_seq (Wk_regionZ fun Z hZ => ?_)
    simp only [go_sem, seval, hc2]
    refine hZ _ (pp (Wk_ret (pp ?_)))
    cases h
    simp only [go_sem, seval]
    exact ⟨_, rfl, RokI.h, PureI.h⟩
  rw [if_pos hc2] at h
  refine Wk_skip (pp (Wk_seq ?_))
  obtain ⟨r2, hr3, h⟩ := Option.bind_eq_some_iff.1 h
  refine Wk_regionZ fun Z hZ => ?_
  simp only [go_sem, seval, hc2, hr3]
  refine hZ _ (pp (Wk_ret (pp ?_)))
  cases h
  simp only [go_sem, seval]
  exact ⟨_, rfl, RokI.h, PureI.h⟩
def fs_session_Acknowledged (N : Nat) : FnS := ⟨[], true, fn1 Session.decA fun q0 => (session_Acknowledged N q0).map fun r => .val (.int .i64 r), false⟩
attribute [go_sem] fs_session_Acknowledged
theorem fs_session_Acknowledged_ok (N : Nat) : FSOk Try.prog 18 (fs_session_Acknowledged N) := ok1 (fun q0 r h => by
  obtain ⟨r', hr, rfl⟩ := Option.map_eq_some_iff.1 h
  exact w_session_Acknowledged N q0 r' hr) (Session.decA_le)


theorem w_session_Accept_1 (N : Nat) (a0 : PendingSubmission) (c0_0 : ByteArray) (c0_1 : Int) (c0_2 : (List Int)) (c0_3 : Int) (c0_4 : Int) (c0_5 : Int) (c0_6 : ByteArray) (c0_7 : (List Int)) (c0_8 : (List ByteArray)) (r : Bool) (h : session_Accept_1 N a0 c0_0 c0_1 c0_2 c0_3 c0_4 c0_5 c0_6 c0_7 c0_8 = some r) : Con Try.prog 43 [] true [.agg (PendingSubmission.row a0), .iref 9 [[.val (.string c0_0), .val (.int .i64 c0_1), .sl false none 1 none (c0_2.map (rowI .i64)), .val (.int .i64 c0_3), .val (.int .i64 c0_4), .val (.int .i64 c0_5), .val (.string c0_6), .sl false none 1 none (c0_7.map (rowI .i64)), .sl false none 1 none (c0_8.map rowS)]] 0 0] (.val (.bool r)) := by
  refine fun_ok4 (G := (glist [])) Try.func43 rfl (by decide) (by kernel_rfl) gn [] mix (Nat.le_of_ble_eq_true rfl) ?_
  simp only [Try.f43]
  unfold session_Accept_1 at h
  refine Wk_seq (Wk_regionZ fun Z hZ => ?_)
  simp only [go_sem, seval]
  refine hZ _ (pp (Wk_seq (Wk_regionZ fun Z hZ => ?_)))
  simp only [go_sem, seval]
  refine hZ _ (pp (Wk_ret (pp ?_)))
  cases h
  simp only [go_sem, seval]
  exact ⟨_, rfl, RokI.h, PureI.h⟩
def fs_session_Accept_1 (N : Nat) : FnS := { own := [], pure := true, fn := fun cs => match cs with
  | [c0, .iref 9 [[c1_0, c1_1, c1_2, c1_3, c1_4, c1_5, c1_6, c1_7, c1_8]] 0 0] => (PendingSubmission.decA c0).bind fun qc0 => (decS c1_0).bind fun qc1_0 => ((decI .i64) c1_1).bind fun qc1_1 => ((decL 1 (dec1 (decI .i64))) c1_2).bind fun qc1_2 => ((decI .i64) c1_3).bind fun qc1_3 => ((decI .i64) c1_4).bind fun qc1_4 => ((decI .i64) c1_5).bind fun qc1_5 => (decS c1_6).bind fun qc1_6 => ((decL 1 (dec1 (decI .i64))) c1_7).bind fun qc1_7 => ((decL 1 (dec1 decS)) c1_8).bind fun qc1_8 => (session_Accept_1 N qc0 qc1_0 qc1_1 qc1_2 qc1_3 qc1_4 qc1_5 qc1_6 qc1_7 qc1_8).map fun r => .val (.bool r)
  | _ => none }
attribute [go_sem] fs_session_Accept_1
theorem fs_session_Accept_1_ok (N : Nat) : FSOk Try.prog 43 (fs_session_Accept_1 N) := by
  refine ⟨fun cs r h => ?_, fun h => by cases h⟩
  simp only [fs_session_Accept_1] at h
  split at h
  · simp only [Option.bind_eq_some_iff, Option.map_eq_some_iff] at h
    obtain ⟨q0, h0, q1, h1, q2, h2, q3, h3, q4, h4, q5, h5, q6, h6, q7, h7, q8, h8, q9, h9, r', hr, rfl⟩ := h
    exact ((w_session_Accept_1 N q0 q1 q2 q3 q4 q5 q6 q7 q8 q9 r' hr).args (LeL.cons (PendingSubmission.decA_le h0) (LeL.cons (Le.iref1 (LeL.cons (decS_le h1) (LeL.cons (decI_le h2) (LeL.cons (decL_le (decI1_le .i64) h3) (LeL.cons (decI_le h4) (LeL.cons (decI_le h5) (LeL.cons (decI_le h6) (LeL.cons (decS_le h7) (LeL.cons (decL_le (decI1_le .i64) h8) (LeL.cons (decL_le decS1_le h9) (LeL.nil))))))))))) (LeL.nil))))
  · cases h


noncomputable def G_slices_IndexFunc_PendingSubmission_session_Accept_1 (N d f : Nat) : Option FnS := glist [(16, 43, fs_session_Accept_1 N)] d f
attribute [go_sem] G_slices_IndexFunc_PendingSubmission_session_Accept_1
theorem w_slices_IndexFunc_PendingSubmission_session_Accept_1 (N : Nat) (a0 : (List PendingSubmission)) (k1_0_0 : ByteArray) (k1_0_1 : Int) (k1_0_2 : (List Int)) (k1_0_3 : Int) (k1_0_4 : Int) (k1_0_5 : Int) (k1_0_6 : ByteArray) (k1_0_7 : (List Int)) (k1_0_8 : (List ByteArray)) (r : Int) (h : slices_IndexFunc_PendingSubmission_session_Accept_1 N a0 k1_0_0 k1_0_1 k1_0_2 k1_0_3 k1_0_4 k1_0_5 k1_0_6 k1_0_7 k1_0_8 = some r) : Con Try.prog 42 [] true [.sl false none 6 none (a0.map PendingSubmission.row), .clo 43 [.iref 9 [[.val (.string k1_0_0), .val (.int .i64 k1_0_1), .sl false none 1 none (k1_0_2.map (rowI .i64)), .val (.int .i64 k1_0_3), .val (.int .i64 k1_0_4), .val (.int .i64 k1_0_5), .val (.string k1_0_6), .sl false none 1 none (k1_0_7.map (rowI .i64)), .sl false none 1 none (k1_0_8.map rowS)]] 0 0]] (.val (.int .i64 r)) := by
  refine fun_ok4 (G := (G_slices_IndexFunc_PendingSubmission_session_Accept_1 N)) Try.func42 rfl (by decide) (by kernel_rfl) (gc 16 (fs_session_Accept_1_ok N) gn) [] mix (Nat.le_of_ble_eq_true rfl) ?_
  simp only [Try.f42]
  unfold slices_IndexFunc_PendingSubmission_session_Accept_1 at h
  refine Wk_seq (Wk_regionZ fun Z hZ => ?_)
  simp only [go_sem, seval]
  refine hZ _ (pp (Wk_seq (Wk_seq (Wk_regionZ fun Z hZ => ?_))))
  simp only [go_sem, seval]
  refine hZ _ (pp (Wk_block (Wk_real fun hreal2 => ?_)))
  have hl1 := hreal2.lenT 0 (by decide) (by simp only [go_sem, seval]; rfl)
  rw [List.length_map] at hl1
  refine Wk_range (fun (v2 : Nat) (b : Unit) => ⟨tab 19 (updT (updT (updT (updT deadT 0 (.sl false none 6 none (a0.map PendingSubmission.row))) 1 (.clo 43 [.iref 9 [[.val (.string k1_0_0), .val (.int .i64 k1_0_1), .sl false none 1 none (k1_0_2.map (rowI .i64)), .val (.int .i64 k1_0_3), .val (.int .i64 k1_0_4), .val (.int .i64 k1_0_5), .val (.string k1_0_6), .sl false none 1 none (k1_0_7.map (rowI .i64)), .sl false none 1 none (k1_0_8.map rowS)]] 0 0])) 7 (.val (.int .i64 ((a0.length : Nat) : Int)))) 8 (.val (.int .i64 ((v2 : Nat) : Int)))), RZ⟩) () h ?_ ?_
  · refine weak_roots ?_ ?_ <;> repeat' first | exact xn | exact rn | refine xc ?_ ?_ | refine rc ?_ ?_ ?_ | rfl
  rintro v2 ⟨⟩ hi3 h -
  rcases (drop_cases a0 v2 hi3).symm with ⟨hi3', _, hd6⟩ | ⟨x5, hi3', hx4, hd6⟩
  · rw [hd6] at h
    simp only [slices_IndexFunc_PendingSubmission_session_Accept_1_L1] at h
    refine Wk_seq (Wk_regionZ fun Z hZ => ?_)
    simp only [go_sem, seval, hi3']
    refine hZ _ (pp (Wk_seq ?_))
    try simp only [Int.ofNat_lt, hi3', if_true, if_false] at h
    refine Wk_cond_f rfl (Wk_exit (pp (Wk_seq (Wk_regionZ fun Z hZ => ?_))))
    simp only [go_sem, seval]
    refine hZ _ (pp (Wk_ret (pp ?_)))
    cases h
    simp only [go_sem, seval]
    exact ⟨_, rfl, RokI.h, PureI.h⟩
  rw [hd6] at h
  simp only [slices_IndexFunc_PendingSubmission_session_Accept_1_L1] at h
  have hw5 := wrap_succ hi3' hl1
  refine Wk_seq (Wk_regionZ fun Z hZ => ?_)
  simp only [go_sem, seval, hi3']
  refine hZ _ (pp (Wk_seq ?_))
  try simp only [Int.ofNat_lt, hi3', if_true, if_false] at h
  refine Wk_cond_t rfl (Wk_skip (pp (Wk_seq (Wk_block (Wk_seq (Wk_regionZ fun Z hZ => ?_))))))
  simp only [go_sem, seval]
  refine hZ _ (pp (Wk_seq ?_))
  try rw [gx_nat hx4] at h
  obtain ⟨r1, hr7, h⟩ := Option.bind_eq_some_iff.1 h
  refine Wk_regionZ fun Z hZ => ?_
  simp only [go_sem, seval, hx4, hi3', hr7]
  refine hZ _ (pp (Wk_cond_bool rfl (fun hc8 => ?_) (fun hc8 => ?_)))
  · rw [if_pos hc8] at h
    refine Wk_seq (Wk_regionZ fun Z hZ => ?_)
    simp only [go_sem, seval, hc8]
    refine hZ _ (pp (Wk_ret (pp ?_)))
    cases h
    simp only [go_sem, seval]
    exact ⟨_, rfl, RokI.h, PureI.h⟩
  rw [if_neg (ne_true_of_eq_false hc8)] at h
  refine Wk_skip (pp (Wk_regionZ fun Z hZ => ?_))
  simp only [go_sem, seval, hw5, hc8]
  refine hZ _ (pp ?_)
  first | refine ⟨(), ?_, h⟩ | refine ⟨hi3', (), ?_, h⟩
  refine weak_roots ?_ ?_ <;> repeat' first | exact xn | exact rn | refine xc ?_ ?_ | refine rc ?_ ?_ ?_ | rfl
def fs_slices_IndexFunc_PendingSubmission_session_Accept_1 (N : Nat) : FnS := { own := [], pure := true, fn := fun cs => match cs with
  | [c0, .clo 43 [.iref 9 [[k1_0_0, k1_0_1, k1_0_2, k1_0_3, k1_0_4, k1_0_5, k1_0_6, k1_0_7, k1_0_8]] 0 0]] => ((decL 6 PendingSubmission.dec) c0).bind fun qc0 => (decS k1_0_0).bind fun qk1_0_0 => ((decI .i64) k1_0_1).bind fun qk1_0_1 => ((decL 1 (dec1 (decI .i64))) k1_0_2).bind fun qk1_0_2 => ((decI .i64) k1_0_3).bind fun qk1_0_3 => ((decI .i64) k1_0_4).bind fun qk1_0_4 => ((decI .i64) k1_0_5).bind fun qk1_0_5 => (decS k1_0_6).bind fun qk1_0_6 => ((decL 1 (dec1 (decI .i64))) k1_0_7).bind fun qk1_0_7 => ((decL 1 (dec1 decS)) k1_0_8).bind fun qk1_0_8 => (slices_IndexFunc_PendingSubmission_session_Accept_1 N qc0 qk1_0_0 qk1_0_1 qk1_0_2 qk1_0_3 qk1_0_4 qk1_0_5 qk1_0_6 qk1_0_7 qk1_0_8).map fun r => .val (.int .i64 r)
  | _ => none }
attribute [go_sem] fs_slices_IndexFunc_PendingSubmission_session_Accept_1
theorem fs_slices_IndexFunc_PendingSubmission_session_Accept_1_ok (N : Nat) : FSOk Try.prog 42 (fs_slices_IndexFunc_PendingSubmission_session_Accept_1 N) := by
  refine ⟨fun cs r h => ?_, fun h => by cases h⟩
  simp only [fs_slices_IndexFunc_PendingSubmission_session_Accept_1] at h
  split at h
  · simp only [Option.bind_eq_some_iff, Option.map_eq_some_iff] at h
    obtain ⟨q0, h0, q1, h1, q2, h2, q3, h3, q4, h4, q5, h5, q6, h6, q7, h7, q8, h8, q9, h9, r', hr, rfl⟩ := h
    exact ((w_slices_IndexFunc_PendingSubmission_session_Accept_1 N q0 q1 q2 q3 q4 q5 q6 q7 q8 q9 r' hr).args (LeL.cons (decL_le PendingSubmission.dec_le h0) (LeL.cons (Le.clo (LeL.cons (Le.iref1 (LeL.cons (decS_le h1) (LeL.cons (decI_le h2) (LeL.cons (decL_le (decI1_le .i64) h3) (LeL.cons (decI_le h4) (LeL.cons (decI_le h5) (LeL.cons (decI_le h6) (LeL.cons (decS_le h7) (LeL.cons (decL_le (decI1_le .i64) h8) (LeL.cons (decL_le decS1_le h9) (LeL.nil))))))))))) (LeL.nil))) (LeL.nil))))
  · cases h


theorem w_dedup_name (N : Nat) (a0 : ByteArray) (r : Bool) (h : dedup_name N a0 = some r) : Con Try.prog 60 [] true [.val (.string a0)] (.val (.bool r)) := by
  refine fun_ok4 (G := (glist [])) Try.func60 rfl (by decide) (by kernel_rfl) gn [] mix (Nat.le_of_ble_eq_true rfl) ?_
  simp only [Try.f60]
  unfold dedup_name at h
  refine Wk_seq (Wk_regionZ fun Z hZ => ?_)
  simp only [go_sem, seval]
  refine hZ _ (pp (Wk_seq (Wk_regionZ fun Z hZ => ?_)))
  simp only [go_sem, seval]
  refine RX_guard_dec rfl (fun hc1 => ?_) (fun hc1 => ?_)
  · have hc1d := decide_eq_true hc1
    rw [if_pos hc1] at h
    simp only [go_sem, seval, hc1d]
    refine hZ _ (pp (Wk_ret (pp ?_)))
    cases h
    simp only [go_sem, seval]
    exact ⟨_, rfl, RokI.h, PureI.h⟩
  have hc1d := decide_eq_false hc1
  rw [if_neg hc1] at h
  simp only [go_sem, seval, hc1d]
  refine hZ _ (pp (Wk_ret (pp ?_)))
  cases h
  simp only [go_sem, seval]
  exact ⟨_, rfl, RokI.h, PureI.h⟩
def fs_dedup_name (N : Nat) : FnS := ⟨[], true, fn1 decS fun q0 => (dedup_name N q0).map fun r => .val (.bool r), false⟩
attribute [go_sem] fs_dedup_name
theorem fs_dedup_name_ok (N : Nat) : FSOk Try.prog 60 (fs_dedup_name N) := ok1 (fun q0 r h => by
  obtain ⟨r', hr, rfl⟩ := Option.map_eq_some_iff.1 h
  exact w_dedup_name N q0 r' hr) (decS_le)


theorem w_dedup_number (N : Nat) (a0 : Int) (r : Bool) (h : dedup_number N a0 = some r) : Con Try.prog 61 [] true [.val (.int .i64 a0)] (.val (.bool r)) := by
  refine fun_ok4 (G := (glist [])) Try.func61 rfl (by decide) (by kernel_rfl) gn [] mix (Nat.le_of_ble_eq_true rfl) ?_
  simp only [Try.f61]
  unfold dedup_number at h
  refine Wk_seq (Wk_regionZ fun Z hZ => ?_)
  simp only [go_sem, seval]
  refine hZ _ (pp (Wk_seq (Wk_regionZ fun Z hZ => ?_)))
  simp only [go_sem, seval]
  refine RX_guard_dec rfl (fun hc1 => ?_) (fun hc1 => ?_)
  · have hc1d := decide_eq_true hc1
    rw [if_pos hc1] at h
    simp only [go_sem, seval, hc1d]
    refine hZ _ (pp (Wk_ret (pp ?_)))
    cases h
    simp only [go_sem, seval]
    exact ⟨_, rfl, RokI.h, PureI.h⟩
  have hc1d := decide_eq_false hc1
  rw [if_neg hc1] at h
  simp only [go_sem, seval, hc1d]
  refine hZ _ (pp (Wk_ret (pp ?_)))
  cases h
  simp only [go_sem, seval]
  exact ⟨_, rfl, RokI.h, PureI.h⟩
def fs_dedup_number (N : Nat) : FnS := ⟨[], true, fn1 (decI .i64) fun q0 => (dedup_number N q0).map fun r => .val (.bool r), false⟩
attribute [go_sem] fs_dedup_number
theorem fs_dedup_number_ok (N : Nat) : FSOk Try.prog 61 (fs_dedup_number N) := ok1 (fun q0 r h => by
  obtain ⟨r', hr, rfl⟩ := Option.map_eq_some_iff.1 h
  exact w_dedup_number N q0 r' hr) (decI_le)


noncomputable def G_dedup_ValidReply (N d f : Nat) : Option FnS := glist [(5, 60, fs_dedup_name N), (9, 61, fs_dedup_number N), (30, 49, fs_wire_ValidValue N)] d f
attribute [go_sem] G_dedup_ValidReply
theorem w_dedup_ValidReply (N : Nat) (a0 : Reply) (r : Bool) (h : dedup_ValidReply N a0 = some r) : Con Try.prog 44 [] true [.agg (Reply.row a0)] (.val (.bool r)) := by
  refine fun_ok4 (G := (G_dedup_ValidReply N)) Try.func44 rfl (by decide) (by kernel_rfl) (gc 5 (fs_dedup_name_ok N) (gc 9 (fs_dedup_number_ok N) (gc 30 (fs_wire_ValidValue_ok N) gn))) [] mix (Nat.le_of_ble_eq_true rfl) ?_
  simp only [Try.f44]
  unfold dedup_ValidReply at h
  refine Wk_seq (Wk_regionZ fun Z hZ => ?_)
  simp only [go_sem, seval]
  refine hZ _ (pp (Wk_seq ?_))
  obtain ⟨r1, hr1, h⟩ := Option.bind_eq_some_iff.1 h
  refine Wk_regionZ fun Z hZ => ?_
  simp only [go_sem, seval, hr1]
  refine sw (RX_guard_bool rfl) (fun hc2 => ?_) (fun hc2 => ?_)
  · rw [if_neg (ne_true_of_eq_false hc2)] at h
    simp only [go_sem, seval, hc2]
    refine hZ _ (pp (Wk_ret (pp ?_)))
    cases h
    simp only [go_sem, seval]
    exact ⟨_, rfl, RokI.h, PureI.h⟩
  rw [if_pos hc2] at h
  obtain ⟨r2, hr3, h⟩ := Option.bind_eq_some_iff.1 h
  simp only [go_sem, seval, hc2, hr3]
  refine sw (RX_guard_bool rfl) (fun hc4 => ?_) (fun hc4 => ?_)
  · rw [if_neg (ne_true_of_eq_false hc4)] at h
    simp only [go_sem, seval, hc4]
    refine hZ _ (pp (Wk_ret (pp ?_)))
    cases h
    simp only [go_sem, seval]
    exact ⟨_, rfl, RokI.h, PureI.h⟩
  rw [if_pos hc4] at h
  simp only [go_sem, seval, hc4]
  refine sw (RX_guard_dec rfl) (fun hc5 => ?_) (fun hc5 => ?_)
  · have hc5d := decide_eq_false hc5
    rw [if_neg hc5] at h
    simp only [go_sem, seval, hc5d]
    refine hZ _ (pp (Wk_ret (pp ?_)))
    cases h
    simp only [go_sem, seval]
    exact ⟨_, rfl, RokI.h, PureI.h⟩
  have hc5d := decide_eq_true hc5
  rw [if_pos hc5] at h
  simp only [go_sem, seval, hc5d]
  refine sw (RX_guard_dec rfl) (fun hc6 => ?_) (fun hc6 => ?_)
  · have hc6d := decide_eq_false hc6
    rw [if_neg hc6] at h
    simp only [go_sem, seval, hc6d]
    refine hZ _ (pp (Wk_ret (pp ?_)))
    cases h
    simp only [go_sem, seval]
    exact ⟨_, rfl, RokI.h, PureI.h⟩
  have hc6d := decide_eq_true hc6
  rw [if_pos hc6] at h
  simp only [go_sem, seval, hc6d]
  refine sw (RX_guard_dec rfl) (fun hc7 => ?_) (fun hc7 => ?_)
  · have hc7d := decide_eq_false hc7
    rw [if_neg hc7] at h
    simp only [go_sem, seval, hc7d]
    refine hZ _ (pp (Wk_ret (pp ?_)))
    cases h
    simp only [go_sem, seval]
    exact ⟨_, rfl, RokI.h, PureI.h⟩
  have hc7d := decide_eq_true hc7
  rw [if_pos hc7] at h
  obtain ⟨r3, hr8, h⟩ := Option.bind_eq_some_iff.1 h
  simp only [go_sem, seval, hc7d, hr8]
  refine sw (RX_guard_bool rfl) (fun hc9 => ?_) (fun hc9 => ?_)
  · rw [if_neg (ne_true_of_eq_false hc9)] at h
    simp only [go_sem, seval, hc9]
    refine hZ _ (pp (Wk_ret (pp ?_)))
    cases h
    simp only [go_sem, seval]
    exact ⟨_, rfl, RokI.h, PureI.h⟩
  rw [if_pos hc9] at h
  simp only [go_sem, seval, hc9]
  refine RX_guard_dec rfl (fun hc10 => ?_) (fun hc10 => ?_)
  · have hc10d := decide_eq_true hc10
    rw [if_pos hc10] at h
    simp only [go_sem, seval, hc10d]
    refine hZ _ (pp (Wk_ret (pp ?_)))
    cases h
    simp only [go_sem, seval]
    exact ⟨_, rfl, RokI.h, PureI.h⟩
  have hc10d := decide_eq_false hc10
  rw [if_neg hc10] at h
  simp only [go_sem, seval, hc10d]
  refine hZ _ (pp (Wk_ret (pp ?_)))
  cases h
  simp only [go_sem, seval]
  exact ⟨_, rfl, RokI.h, PureI.h⟩
def fs_dedup_ValidReply (N : Nat) : FnS := ⟨[], true, fn1 Reply.decA fun q0 => (dedup_ValidReply N q0).map fun r => .val (.bool r), false⟩
attribute [go_sem] fs_dedup_ValidReply
theorem fs_dedup_ValidReply_ok (N : Nat) : FSOk Try.prog 44 (fs_dedup_ValidReply N) := ok1 (fun q0 r h => by
  obtain ⟨r', hr, rfl⟩ := Option.map_eq_some_iff.1 h
  exact w_dedup_ValidReply N q0 r' hr) (Reply.decA_le)


noncomputable def E_slices_Delete_PendingSubmission : Env := { T := tiOf Try.prog, G := fun d f => none }
theorem E_slices_Delete_PendingSubmission_T : E_slices_Delete_PendingSubmission.T = tiOf Try.prog := rfl
theorem E_slices_Delete_PendingSubmission_F (d : Nat) : E_slices_Delete_PendingSubmission.F d = none := rfl
theorem E_slices_Delete_PendingSubmission_ok : GOk Try.prog { T := tiOf Try.prog, G := E_slices_Delete_PendingSubmission.G } := by
  intro d f fs hfs
  cases hfs
theorem fo_slices_Delete_PendingSubmission : FunOk Try.prog 45 Try.f45 Try.f45.body.get! := ⟨Try.func45, rfl, by decide, by kernel_rfl⟩
set_option maxHeartbeats 4000000 in
theorem w1_slices_Delete_PendingSubmission {α : Type} (row : α → List C) (ok : RowOk row) (l : List α) (i j : Nat) (r : List α) (hr : r = l.take i ++ l.drop j) (hij : i ≤ j) (hj : j ≤ l.length) :
    Con Try.prog 45 [true, false, false] false [.sl true none 6 none (l.map row), .val (.int .i64 i), .val (.int .i64 j)] (.sl true none 6 none (r.map row)) := by
  refine fun_own (E := E_slices_Delete_PendingSubmission) (tiOf_ok Try.prog _) E_slices_Delete_PendingSubmission_ok mix fo_slices_Delete_PendingSubmission (Nat.le_of_ble_eq_true rfl) ?_
  intro _
  rw [entry_tab (by simp)]
  rw [show entryF [true, false, false] [C.sl true none 6 none (l.map row), C.val (.int .i64 i), C.val (.int .i64 j)] = (updT (updT (updT deadT 0 (.pal 0 [] 0 l.length none)) 1 (.val (.int .i64 i))) 2 (.val (.int .i64 j))) from by funext t; match t with | 0 => simp [entryF, entryTmp, viewD, updT] | 1 => rfl | 2 => rfl | t + 3 => rfl]
  rw [show R0 [true, false, false] [C.sl true none 6 none (l.map row), C.val (.int .i64 i), C.val (.int .i64 j)] = upd RZ 0 (C.sl true none 6 none (l.map row)) from by funext t; match t with | 0 => rfl | 1 => rfl | 2 => rfl | t + 3 => rfl]
  apply W_start
  simp only [Try.f45, Option.get!]
  have hi1 : (i : Int) ≤ (j : Int) := by omega
  have hj1 : (j : Int) ≤ (l.length : Int) := by omega
  have hj0 : i ≤ l.length := by omega
  simp only [go_sem, seval, E_slices_Delete_PendingSubmission_T, E_slices_Delete_PendingSubmission_F, hi1, hj1, hij, hj, hj0, Nat.le_refl, RowOk.frzRows ok, RowOk.all ok, RowOk.allPlain ok, RowOk.allD ok, rewritten, RX_clear, altX, roomS, roomC, reslice2X, clearX, mem_none_le, mem_some_le, Option.map_some, Nat.zero_le, Nat.sub_zero, deepV, List.isEmpty_nil, decide_not, List.length_replicate]
  refine W_cond_dec rfl (fun hc => ?_) (fun hc => ?_)
  · have e : i = j := by omega
    subst e
    simp only [go_sem, seval, E_slices_Delete_PendingSubmission_T, E_slices_Delete_PendingSubmission_F, hi1, hj1, hij, hj, hj0, Nat.le_refl, RowOk.frzRows ok, RowOk.all ok, RowOk.allPlain ok, RowOk.allD ok, rewritten, RX_clear, altX, roomS, roomC, reslice2X, clearX, mem_none_le, mem_some_le, Option.map_some, Nat.zero_le, Nat.sub_zero, deepV, List.isEmpty_nil, decide_not, List.length_replicate, FinO_ret, FinO_normal]
    refine fin_own ok ?_
    rw [hr]
    simp [List.take_of_length_le]
  · have hc1 : decide ((i : Int) = (j : Int)) = false := decide_eq_false hc
    have hlt : i < j := by omega
    have hlt2 : i < l.length := by omega
    have hm3 : (l.drop j).take (l.length - j) = l.drop j := List.take_of_length_le (by simp)
    have hd : (l.drop j).length = l.length - j := by simp
    have hle : i + (l.length - j) ≤ l.length := by omega
    have hnle : ¬ l.length ≤ i + (l.length - j) := by omega
    obtain ⟨A, hA⟩ : ∃ A, setRows (List.map row l) i (List.map row (List.drop j l)) = A := ⟨_, rfl⟩
    have hAp : plainL' A := by rw [← hA]; exact plainL'_set (plainL'_map ok _) (plainL'_map ok _)
    have hAl : A.length = l.length := by rw [← hA]; simp [setRows]; omega
    obtain ⟨B, hB⟩ : ∃ B, setRows A (i + (l.length - j)) (List.replicate (l.length - (i + (l.length - j))) [C.val (Value.string ⟨#[]⟩), C.val (Value.int .i64 0), C.val (Value.int .i64 0), C.val (Value.bool false), C.val (Value.slice none 0 0), C.val (Value.int .i64 0)]) = B := ⟨_, rfl⟩
    have hBp : plainL' B := by rw [← hB]; exact plainL'_set hAp (plainL'_vals _ [Value.string ⟨#[]⟩, Value.int .i64 0, Value.int .i64 0, Value.bool false, Value.slice none 0 0, Value.int .i64 0] (by simp [Value.oneCell']))
    have hBe : B.take (i + (l.length - j)) = r.map row := by
      have := del_rows (L := l.map row) (List.replicate (l.length - (i + (l.length - j))) [C.val (Value.string ⟨#[]⟩), C.val (Value.int .i64 0), C.val (Value.int .i64 0), C.val (Value.bool false), C.val (Value.slice none 0 0), C.val (Value.int .i64 0)]) hij (by simpa using hj)
      rw [List.length_map, ← List.map_drop, hA, hB] at this
      rw [this, hr]; simp
    simp only [go_sem, seval, E_slices_Delete_PendingSubmission_T, E_slices_Delete_PendingSubmission_F, hi1, hj1, hij, hj, hj0, Nat.le_refl, RowOk.frzRows ok, RowOk.all ok, RowOk.allPlain ok, RowOk.allD ok, rewritten, RX_clear, altX, roomS, roomC, reslice2X, clearX, mem_none_le, mem_some_le, Option.map_some, Nat.zero_le, Nat.sub_zero, deepV, List.isEmpty_nil, decide_not, List.length_replicate, hc1, hlt, hlt2, hm3, hd, hle, hnle, hA, hAl, hAp.1, hAp.2]
    repeat' ((with_reducible refine and_bar ?_ ?_); kernel_rfl)
    simp only [go_sem, seval, E_slices_Delete_PendingSubmission_T, E_slices_Delete_PendingSubmission_F, hi1, hj1, hij, hj, hj0, Nat.le_refl, RowOk.frzRows ok, RowOk.all ok, RowOk.allPlain ok, RowOk.allD ok, rewritten, RX_clear, altX, roomS, roomC, reslice2X, clearX, mem_none_le, mem_some_le, Option.map_some, Nat.zero_le, Nat.sub_zero, deepV, List.isEmpty_nil, decide_not, List.length_replicate, hc1, hlt, hlt2, hm3, hd, hle, hnle, hA, hAl, hAp.1, hAp.2, hB, hBp.1, hBp.2, FinO_ret, FinO_normal]
    repeat' ((with_reducible refine and_bar ?_ ?_); kernel_rfl)
    try simp only [go_sem, seval, E_slices_Delete_PendingSubmission_T, E_slices_Delete_PendingSubmission_F, hi1, hj1, hij, hj, hj0, Nat.le_refl, RowOk.frzRows ok, RowOk.all ok, RowOk.allPlain ok, RowOk.allD ok, rewritten, RX_clear, altX, roomS, roomC, reslice2X, clearX, mem_none_le, mem_some_le, Option.map_some, Nat.zero_le, Nat.sub_zero, deepV, List.isEmpty_nil, decide_not, List.length_replicate, FinO_ret, FinO_normal, hBp.1, hBp.2]
    refine fin_own ok ?_
    rw [← hBe]
theorem w_slices_Delete_PendingSubmission (N : Nat) (a0 : List PendingSubmission) (a1 : Int) (a2 : Int) (r : List PendingSubmission) (h : slices_Delete_PendingSubmission N a0 a1 a2 = some r) :
    Con Try.prog 45 [true, false, false] false [.sl true none 6 none (a0.map PendingSubmission.row), .val (.int .i64 a1), .val (.int .i64 a2)] (.sl true none 6 none (r.map PendingSubmission.row)) := by
  unfold slices_Delete_PendingSubmission at h
  obtain ⟨n, m, rfl, rfl, h1, h2, h3⟩ := delM_some h
  exact w1_slices_Delete_PendingSubmission PendingSubmission.row PendingSubmission.row_ok a0 n m r (Option.some.inj h3).symm h1 h2
def fso_slices_Delete_PendingSubmission (N : Nat) : FnS := { own := [true, false, false], pure := false, fn := fun cs => match cs with
  | [c0, c1, c2] => (decO 6 PendingSubmission.dec c0).bind fun q0 => (decI .i64 c1).bind fun q1 => (decI .i64 c2).bind fun q2 => (slices_Delete_PendingSubmission N q0 q1 q2).map fun r => .sl true none 6 none (r.map PendingSubmission.row)
  | _ => none }
theorem fso_slices_Delete_PendingSubmission_own (N : Nat) : (fso_slices_Delete_PendingSubmission N).own = [true, false, false] := rfl
theorem fso_slices_Delete_PendingSubmission_pure (N : Nat) : (fso_slices_Delete_PendingSubmission N).pure = false := rfl
theorem fso_slices_Delete_PendingSubmission_peek (N : Nat) : (fso_slices_Delete_PendingSubmission N).peek = false := rfl
attribute [go_sem] fso_slices_Delete_PendingSubmission fso_slices_Delete_PendingSubmission_own fso_slices_Delete_PendingSubmission_pure fso_slices_Delete_PendingSubmission_peek
theorem fso_slices_Delete_PendingSubmission_ok (N : Nat) : FSOk Try.prog 45 (fso_slices_Delete_PendingSubmission N) := by
  refine ⟨fun cs r h => ?_, fun h => by cases h⟩
  simp only [fso_slices_Delete_PendingSubmission] at h
  split at h
  · simp only [Option.bind_eq_some_iff, Option.map_eq_some_iff] at h
    obtain ⟨q0, h0, q1, h1, q2, h2, r', hr, rfl⟩ := h
    exact (w_slices_Delete_PendingSubmission N q0 q1 q2 r' hr).argsO rfl (argsO_own (decO_ok PendingSubmission.row_ok PendingSubmission.dec_le h0) (argsO_le (decI_le h1) (argsO_le (decI_le h2) argsO_nil)))
  · cases h


noncomputable def G_session_Accept (N d f : Nat) : Option FnS := glist [(9, 17, fs_session_Valid N), (13, 39, fso_session_clone N), (17, 42, fs_slices_IndexFunc_PendingSubmission_session_Accept_1 N), (19, 44, fs_dedup_ValidReply N), (38, 45, fso_slices_Delete_PendingSubmission N)] d f
attribute [go_sem] G_session_Accept
theorem w_session_Accept (N : Nat) (a0 : Session) (a1 : Reply) (r : Session × Bool) (h : session_Accept N a0 a1 = some r) : Con Try.prog 22 [] false [.agg (Session.row a0), .agg (Reply.row a1)] (.tup [.agg [.val (.string r.1.Name), .val (.int .i64 r.1.Next), .sl true none 6 none (r.1.Open.map PendingSubmission.row)], .val (.bool r.2)]) := by
  refine fun_ok4 (G := (G_session_Accept N)) Try.func22 rfl (by decide) (by kernel_rfl) (gc 9 (fs_session_Valid_ok N) (gc 13 (fso_session_clone_ok N) (gc 17 (fs_slices_IndexFunc_PendingSubmission_session_Accept_1_ok N) (gc 19 (fs_dedup_ValidReply_ok N) (gc 38 (fso_slices_Delete_PendingSubmission_ok N) gn))))) [] mix (Nat.le_of_ble_eq_true rfl) ?_
  simp only [Try.f22]
  unfold session_Accept at h
  refine Wk_seq (Wk_regionZ fun Z hZ => ?_)
  simp only [go_sem, seval]
  refine hZ _ (pp (Wk_seq (Wk_seq ?_)))
  obtain ⟨r1, hr1, h⟩ := Option.bind_eq_some_iff.1 h
  refine Wk_regionZ fun Z hZ => ?_
  simp only [go_sem, seval, hr1]
  refine hZ _ (pp (Wk_cond_nbool rfl (fun hc2 => ?_) (fun hc2 => ?_)))
  · rw [if_neg (ne_true_of_eq_false hc2)] at h
    refine Wk_seq (Wk_regionZ fun Z hZ => ?_)
    simp only [go_sem, seval, hc2]
    refine hZ _ (pp (Wk_ret (pp ?_)))
    cases h
    simp only [go_sem, seval]
    exact ⟨_, rfl, RokI.h⟩
  rw [if_pos hc2] at h
  refine Wk_skip (pp (Wk_seq ?_))
  obtain ⟨r2, hr3, h⟩ := Option.bind_eq_some_iff.1 h
  refine Wk_regionZ fun Z hZ => ?_
  simp only [go_sem, seval, hc2, hr3]
  refine hZ _ (pp (Wk_seq ?_))
  obtain ⟨r3, hr4, h⟩ := Option.bind_eq_some_iff.1 h
  refine Wk_regionZ fun Z hZ => ?_
  simp only [go_sem, seval, hr4]
  refine hZ _ (pp (Wk_seq ?_))
  apply Wk_join1 (fun (c8 : Bool) => ⟨tab 41 (updT (updT (updT (updT deadT 4 (.pref 4 [] 0 0)) 6 (.pref 6 [] 0 0)) 7 (.val (.int .i64 r3))) 31 (.val (.bool c8))), (upd (upd RZ 4 (.sl true none 3 (some 1) [[.val (.string (⟨#[]⟩)), .val (.int .i64 0), .val (.slice none 0 0)]])) 6 (.sl true none 3 (some 1) [[.val (.string r2.Name), .val (.int .i64 r2.Next), .sl true none 6 none (r2.Open.map PendingSubmission.row)]]))⟩)
  · intro hJ5
    obtain ⟨r9, hr6, h⟩ := Option.bind_eq_some_iff.1 h
    refine Wk_regionZ fun Z hZ => ?_
    simp only [go_sem, seval, hr6]
    refine RX_guard_nbool rfl (fun hc7 => ?_) (fun hc7 => ?_)
    · rw [if_neg (ne_true_of_eq_false hc7)] at h
      simp only [go_sem, seval, hc7]
      refine hZ _ (pp (hJ5 _ true ?_ h))
      refine weak_roots ?_ ?_ <;> repeat' first | exact xn | exact rn | refine xc ?_ ?_ | refine rc ?_ ?_ ?_ | rfl
    rw [if_pos hc7] at h
    simp only [go_sem, seval, hc7]
    refine RX_guard_nbool rfl (fun hc8 => ?_) (fun hc8 => ?_)
    · rw [if_neg (ne_true_of_eq_false hc8)] at h
      simp only [go_sem, seval, hc8]
      refine hZ _ (pp (hJ5 _ true ?_ h))
      refine weak_roots ?_ ?_ <;> repeat' first | exact xn | exact rn | refine xc ?_ ?_ | refine rc ?_ ?_ ?_ | rfl
    rw [if_pos hc8] at h
    simp only [go_sem, seval, hc8]
    refine hZ _ (pp (hJ5 _ (decide (r3 < 0)) ?_ h))
    refine weak_roots ?_ ?_ <;> repeat' first | exact xn | exact rn | refine xc ?_ ?_ | refine rc ?_ ?_ ?_ | rfl
  intro c8 h
  unfold session_Accept_J1 at h
  refine Wk_cond_bool rfl (fun hc9 => ?_) (fun hc9 => ?_)
  · rw [if_pos hc9] at h
    refine Wk_seq (Wk_regionZ fun Z hZ => ?_)
    simp only [go_sem, seval, hc9]
    refine hZ _ (pp (Wk_ret (pp ?_)))
    cases h
    simp only [go_sem, seval]
    exact ⟨_, rfl, RokI.h⟩
  rw [if_neg (ne_true_of_eq_false hc9)] at h
  refine Wk_skip (pp ?_)
  unfold session_Accept_J2 at h
  refine Wk_seq ?_
  obtain ⟨r10, hr10, h⟩ := Option.bind_eq_some_iff.1 h
  refine Wk_regionZ fun Z hZ => ?_
  simp only [go_sem, seval, hc9, hr10]
  refine hZ _ (pp (Wk_seq (Wk_regionZ fun Z hZ => ?_)))
  simp only [go_sem, seval]
  refine hZ _ (pp (Wk_ret (pp ?_)))
  cases h
  simp only [go_sem, seval]
  exact ⟨_, rfl, RokI.h⟩
def fs_session_Accept (N : Nat) : FnS := ⟨[], false, fn2 Session.decA Reply.decA fun q0 q1 => (session_Accept N q0 q1).map fun r => .tup [.agg (Session.row r.1), .val (.bool r.2)], false⟩
attribute [go_sem] fs_session_Accept
theorem fs_session_Accept_ok (N : Nat) : FSOk Try.prog 22 (fs_session_Accept N) := ok2 (fun q0 q1 r h => by
  obtain ⟨r', hr, rfl⟩ := Option.map_eq_some_iff.1 h
  exact (w_session_Accept N q0 q1 r' hr).res (by (try simp only [go_sem]); exact RokI.h)) (Session.decA_le) (Reply.decA_le)

def fso_session_Accept (N : Nat) : FnS := ⟨[], false, fn2 Session.decA Reply.decA fun q0 q1 => (session_Accept N q0 q1).map fun r => .tup [.agg [.val (.string r.1.Name), .val (.int .i64 r.1.Next), .sl true none 6 none (r.1.Open.map PendingSubmission.row)], .val (.bool r.2)], false⟩
attribute [go_sem] fso_session_Accept
theorem fso_session_Accept_ok (N : Nat) : FSOk Try.prog 22 (fso_session_Accept N) := ok2 (fun q0 q1 r h => by
  obtain ⟨r', hr, rfl⟩ := Option.map_eq_some_iff.1 h
  exact w_session_Accept N q0 q1 r' hr) (Session.decA_le) (Reply.decA_le)


noncomputable def G_session_Resend (N d f : Nat) : Option FnS := glist [(11, 17, fs_session_Valid N), (15, 37, fs_session_validTime N), (20, 39, fso_session_clone N), (42, 38, fs_session_acknowledged N), (53, 40, fs_session_cloneSubmission N)] d f
attribute [go_sem] G_session_Resend
theorem w_session_Resend (N : Nat) (a0 : Session) (a1 : Int) (r : Session × (List Submission)) (h : session_Resend N a0 a1 = some r) : Con Try.prog 19 [] false [.agg (Session.row a0), .val (.int .i64 a1)] (.tup [.agg [.val (.string r.1.Name), .val (.int .i64 r.1.Next), .sl true none 6 none (r.1.Open.map PendingSubmission.row)], .sl true none 5 none (r.2.map Submission.row)]) := by
  refine fun_ok4 (G := (G_session_Resend N)) Try.func19 rfl (by decide) (by kernel_rfl) (gc 11 (fs_session_Valid_ok N) (gc 15 (fs_session_validTime_ok N) (gc 20 (fso_session_clone_ok N) (gc 42 (fs_session_acknowledged_ok N) (gc 53 (fs_session_cloneSubmission_ok N) gn))))) [] mix (Nat.le_of_ble_eq_true rfl) ?_
  simp only [Try.f19]
  unfold session_Resend at h
  refine Wk_seq (Wk_regionZ fun Z hZ => ?_)
  simp only [go_sem, seval]
  refine hZ _ (pp (Wk_seq ?_))
  apply Wk_join1 (fun (c7 : Bool) => ⟨tab 59 (updT (updT (updT (updT deadT 1 (.val (.int .i64 a1))) 2 (.pref 2 [] 0 0)) 4 (.pref 4 [] 0 0)) 17 (.val (.bool c7))), (upd (upd RZ 2 (.sl true none 3 (some 1) [Session.row a0])) 4 (.sl true none 3 (some 1) [[.val (.string (⟨#[]⟩)), .val (.int .i64 0), .val (.slice none 0 0)]]))⟩)
  · intro hJ1
    obtain ⟨r8, hr2, h⟩ := Option.bind_eq_some_iff.1 h
    refine Wk_regionZ fun Z hZ => ?_
    simp only [go_sem, seval, hr2]
    refine RX_guard_nbool rfl (fun hc3 => ?_) (fun hc3 => ?_)
    · rw [if_neg (ne_true_of_eq_false hc3)] at h
      simp only [go_sem, seval, hc3]
      refine hZ _ (pp (hJ1 _ true ?_ h))
      refine weak_roots ?_ ?_ <;> repeat' first | exact xn | exact rn | refine xc ?_ ?_ | refine rc ?_ ?_ ?_ | rfl | simp only [go_sem, seval, Bool.or_self, List.length_set, Int.natCast_zero, Int.cast_ofNat_Int, hr2, hc3]
    rw [if_pos hc3] at h
    obtain ⟨r9, hr4, h⟩ := Option.bind_eq_some_iff.1 h
    simp only [go_sem, seval, hc3, hr4]
    refine hZ _ (pp (hJ1 _ (!r9) ?_ h))
    refine weak_roots ?_ ?_ <;> repeat' first | exact xn | exact rn | refine xc ?_ ?_ | refine rc ?_ ?_ ?_ | rfl | simp only [go_sem, seval, Bool.or_self, List.length_set, Int.natCast_zero, Int.cast_ofNat_Int, hr2, hc3, hr4]
  intro c7 h
  unfold session_Resend_J1 at h
  refine Wk_cond_bool rfl (fun hc5 => ?_) (fun hc5 => ?_)
  · rw [if_pos hc5] at h
    refine Wk_seq (Wk_regionZ fun Z hZ => ?_)
    simp only [go_sem, seval, hc5]
    refine hZ _ (pp (Wk_ret (pp ?_)))
    cases h
    simp only [go_sem, seval]
    exact ⟨_, rfl, RokI.h⟩
  rw [if_neg (ne_true_of_eq_false hc5)] at h
  refine Wk_skip (pp ?_)
  unfold session_Resend_J2 at h
  refine Wk_seq ?_
  obtain ⟨r10, hr6, h⟩ := Option.bind_eq_some_iff.1 h
  refine Wk_regionZ fun Z hZ => ?_
  simp only [go_sem, seval, hc5, hr6]
  refine hZ _ (pp (Wk_seq (Wk_regionZ fun Z hZ => ?_)))
  simp only [go_sem, seval]
  refine hZ _ (pp (Wk_seq (Wk_seq (Wk_regionZ fun Z hZ => ?_))))
  simp only [go_sem, seval]
  refine hZ _ (pp (Wk_block (Wk_real fun hreal8 => ?_)))
  have hl7 := hreal8.cell 6 2 (by simp only [go_sem, seval]; rfl) rfl
  rw [List.length_map] at hl7
  refine Wk_count (fun (v10 : Nat) (b : List PendingSubmission × List Submission) => ⟨tab 59 (updT (updT (updT (updT (updT (updT (updT deadT 1 (.val (.int .i64 a1))) 2 (.pref 2 [] 0 0)) 4 (.pref 4 [] 0 0)) 6 (.pref 6 [] 0 0)) 7 (.pal 55 [] 0 b.2.length none)) 23 (.val (.int .i64 ((r10.Open.length : Nat) : Int)))) 24 (.val (.int .i64 ((v10 : Nat) : Int)))), (upd (upd (upd (upd RZ 2 (.sl true none 3 (some 1) [Session.row a0])) 4 (.sl true none 3 (some 1) [[.val (.string (⟨#[]⟩)), .val (.int .i64 0), .val (.slice none 0 0)]])) 6 (.sl true none 3 (some 1) [[.val (.string r10.Name), .val (.int .i64 r10.Next), .sl true none 6 none (b.1.map PendingSubmission.row)]])) 55 (.sl true none 5 none (b.2.map Submission.row)))⟩) (r10.Open, []) h ?_ ?_
  · refine Weak.trans (weak_adopt 7 55 5 (by simp only [go_sem, seval]) (by simp only [go_sem, seval])) ?_
    refine weak_roots ?_ ?_ <;> repeat' first | exact xn | exact rn | refine xc ?_ ?_ | refine rc ?_ ?_ ?_ | rfl | simp only [go_sem, seval, Bool.or_self, List.length_set, Int.natCast_zero, Int.cast_ofNat_Int, hc5, hr6]
  rintro v10 ⟨l8, l9⟩ _ h -
  rcases (count_cases r10.Open.length v10).symm with ⟨hi9', hd12⟩ | ⟨hi9', hd12⟩
  · rw [hd12] at h
    simp only [session_Resend_L1] at h
    refine Wk_seq (Wk_regionZ fun Z hZ => ?_)
    simp only [go_sem, seval, hi9']
    refine hZ _ (pp (Wk_seq ?_))
    try simp only [Int.ofNat_lt, hi9', if_true, if_false] at h
    refine Wk_cond_f rfl (Wk_exit (pp (Wk_seq (Wk_regionZ fun Z hZ => ?_))))
    simp only [go_sem, seval]
    refine hZ _ (pp (Wk_ret (pp ?_)))
    cases h
    simp only [go_sem, seval]
    exact ⟨_, rfl, RokI.h⟩
  rw [hd12] at h
  simp only [session_Resend_L1] at h
  have hw11 := wrap_succ hi9' hl7
  refine Wk_seq (Wk_regionZ fun Z hZ => ?_)
  simp only [go_sem, seval, hi9']
  refine hZ _ (pp (Wk_seq ?_))
  try simp only [Int.ofNat_lt, hi9', if_true, if_false] at h
  refine Wk_cond_t rfl (Wk_skip (pp (Wk_seq (Wk_block (Wk_seq (Wk_regionZ fun Z hZ => ?_))))))
  simp only [go_sem, seval]
  refine hZ _ (pp (Wk_seq ?_))
  obtain ⟨x11, hb13, hx14, h⟩ := gx_some h
  try simp only [Int.toNat_natCast] at hx14
  try simp only [Int.ofNat_lt, Int.natCast_nonneg, true_and] at hb13
  refine Wk_regionZ fun Z hZ => ?_
  simp only [go_sem, seval, hb13]
  refine hZ _ (pp (Wk_seq (Wk_seq (Wk_regionZ fun Z hZ => ?_))))
  simp only [go_sem, seval, hx14]
  refine hZ _ (pp (Wk_cond_dec rfl (fun hc15 => ?_) (fun hc15 => ?_)))
  · have hc15d := decide_eq_true hc15
    rw [if_pos hc15] at h
    refine Wk_exit (pp (Wk_regionZ fun Z hZ => ?_))
    simp only [go_sem, seval, hw11, hc15d]
    refine hZ _ (pp ?_)
    first | refine ⟨(l8, l9), ?_, h⟩ | refine ⟨hi9', (l8, l9), ?_, h⟩
    refine weak_roots ?_ ?_ <;> repeat' first | exact xn | exact rn | refine xc ?_ ?_ | refine rc ?_ ?_ ?_ | rfl | simp only [go_sem, seval, Bool.or_self, List.length_set, Int.natCast_zero, Int.cast_ofNat_Int, hc5, hr6, hi9', hw11, hb13, hx14, hc15d]
  have hc15d := decide_eq_false hc15
  rw [if_neg hc15] at h
  refine Wk_skip (pp (Wk_seq ?_))
  obtain ⟨r12, hr16, h⟩ := Option.bind_eq_some_iff.1 h
  have hx18 := set_get (y := (PendingSubmission.mk x11.Submission_ a1)) hx14
  have hx20 := set_get (y := (PendingSubmission.mk (Submission.mk x11.Submission_.Client x11.Submission_.Seq r12 x11.Submission_.Atomic x11.Submission_.Calls) a1)) hx14
  refine Wk_regionZ fun Z hZ => ?_
  simp only [go_sem, seval, hx14, hc15d, hr16, map_modify2 (row := PendingSubmission.row) (y := (PendingSubmission.mk x11.Submission_ a1)) (rx := [.val (.string x11.Submission_.Client), .val (.int .i64 x11.Submission_.Seq), .val (.int .i64 x11.Submission_.Acked), .val (.bool x11.Submission_.Atomic), .sl false none 4 none (x11.Submission_.Calls.map ActorCall.row), .val (.int .i64 x11.Sent)]) (ry := [.val (.string x11.Submission_.Client), .val (.int .i64 x11.Submission_.Seq), .val (.int .i64 x11.Submission_.Acked), .val (.bool x11.Submission_.Atomic), .sl false none 4 none (x11.Submission_.Calls.map ActorCall.row), .val (.int .i64 a1)]) hx14 rfl rfl, hx18, map_modify3 (row := PendingSubmission.row) (y0 := (PendingSubmission.mk x11.Submission_ a1)) (y := (PendingSubmission.mk (Submission.mk x11.Submission_.Client x11.Submission_.Seq r12 x11.Submission_.Atomic x11.Submission_.Calls) a1)) (rx := [.val (.string x11.Submission_.Client), .val (.int .i64 x11.Submission_.Seq), .val (.int .i64 x11.Submission_.Acked), .val (.bool x11.Submission_.Atomic), .sl false none 4 none (x11.Submission_.Calls.map ActorCall.row), .val (.int .i64 a1)]) (ry := [.val (.string x11.Submission_.Client), .val (.int .i64 x11.Submission_.Seq), .val (.int .i64 r12), .val (.bool x11.Submission_.Atomic), .sl false none 4 none (x11.Submission_.Calls.map ActorCall.row), .val (.int .i64 a1)]) hx14 rfl rfl]
  refine hZ _ (pp ?_)
  obtain ⟨r13, hr21, h⟩ := Option.bind_eq_some_iff.1 h
  obtain ⟨ha22, h⟩ := apx_some h
  simp only [List.length_cons, List.length_nil, Nat.zero_add, Nat.reduceAdd] at ha22
  refine Wk_regionZ fun Z hZ => ?_
  simp only [go_sem, seval, hx20, hr21, ha22]
  refine hZ _ (pp (Wk_regionZ fun Z hZ => ?_))
  simp only [go_sem, seval, hw11]
  refine hZ _ (pp ?_)
  first | refine ⟨((l8.set v10 (PendingSubmission.mk (Submission.mk x11.Submission_.Client x11.Submission_.Seq r12 x11.Submission_.Atomic x11.Submission_.Calls) a1)), (l9 ++ [r13])), ?_, h⟩ | refine ⟨hi9', ((l8.set v10 (PendingSubmission.mk (Submission.mk x11.Submission_.Client x11.Submission_.Seq r12 x11.Submission_.Atomic x11.Submission_.Calls) a1)), (l9 ++ [r13])), ?_, h⟩
  refine weak_roots ?_ ?_ <;> repeat' first | exact xn | exact rn | refine xc ?_ ?_ | refine rc ?_ ?_ ?_ | rfl | simp only [go_sem, seval]
def fs_session_Resend (N : Nat) : FnS := ⟨[], false, fn2 Session.decA (decI .i64) fun q0 q1 => (session_Resend N q0 q1).map fun r => .tup [.agg (Session.row r.1), .sl false none 5 none (r.2.map Submission.row)], false⟩
attribute [go_sem] fs_session_Resend
theorem fs_session_Resend_ok (N : Nat) : FSOk Try.prog 19 (fs_session_Resend N) := ok2 (fun q0 q1 r h => by
  obtain ⟨r', hr, rfl⟩ := Option.map_eq_some_iff.1 h
  exact (w_session_Resend N q0 q1 r' hr).res (by (try simp only [go_sem]); exact RokI.h)) (Session.decA_le) (decI_le)

def fso_session_Resend (N : Nat) : FnS := ⟨[], false, fn2 Session.decA (decI .i64) fun q0 q1 => (session_Resend N q0 q1).map fun r => .tup [.agg [.val (.string r.1.Name), .val (.int .i64 r.1.Next), .sl true none 6 none (r.1.Open.map PendingSubmission.row)], .sl true none 5 none (r.2.map Submission.row)], false⟩
attribute [go_sem] fso_session_Resend
theorem fso_session_Resend_ok (N : Nat) : FSOk Try.prog 19 (fso_session_Resend N) := ok2 (fun q0 q1 r h => by
  obtain ⟨r', hr, rfl⟩ := Option.map_eq_some_iff.1 h
  exact w_session_Resend N q0 q1 r' hr) (Session.decA_le) (decI_le)


noncomputable def G_law34_awake (N d f : Nat) : Option FnS := glist [(8, 8, fs_session_New N), (21, 14, fs_law34_call N), (22, 21, fs_session_Submit N), (30, 18, fs_session_Acknowledged N), (35, 17, fs_session_Valid N), (47, 22, fs_session_Accept N), (54, 18, fs_session_Acknowledged N), (60, 22, fs_session_Accept N), (67, 18, fs_session_Acknowledged N), (72, 19, fs_session_Resend N), (96, 11, fs_session_ValidSubmission N)] d f
attribute [go_sem] G_law34_awake
theorem w_law34_awake (N : Nat)  (r : Bool) (h : law34_awake N  = some r) : Con Try.prog 7 [] true [] (.val (.bool r)) := by
  refine fun_ok4 (G := (G_law34_awake N)) Try.func7 rfl (by decide) (by kernel_rfl) (gc 8 (fs_session_New_ok N) (gc 21 (fs_law34_call_ok N) (gc 22 (fs_session_Submit_ok N) (gc 30 (fs_session_Acknowledged_ok N) (gc 35 (fs_session_Valid_ok N) (gc 47 (fs_session_Accept_ok N) (gc 54 (fs_session_Acknowledged_ok N) (gc 60 (fs_session_Accept_ok N) (gc 67 (fs_session_Acknowledged_ok N) (gc 72 (fs_session_Resend_ok N) (gc 96 (fs_session_ValidSubmission_ok N) gn))))))))))) [] mix (Nat.le_of_ble_eq_true rfl) ?_
  simp only [Try.f7]
  unfold law34_awake at h
  refine Wk_seq (Wk_regionZ fun Z hZ => ?_)
  simp only [go_sem, seval]
  refine hZ _ (pp (Wk_seq ?_))
  obtain ⟨r1, hr1, h⟩ := Option.bind_eq_some_iff.1 h
  refine Wk_regionZ fun Z hZ => ?_
  simp only [go_sem, seval, hr1]
  refine hZ _ (pp (Wk_seq (Wk_seq (Wk_regionZ fun Z hZ => ?_))))
  simp only [go_sem, seval]
  refine hZ _ (pp (Wk_block (Wk_fuel (fun (b : ByteArray × Int × List PendingSubmission × Int × Int) => ⟨tab 98 (updT (updT (updT deadT 1 (.pref 1 [] 0 0)) 2 (.val (.int .i64 b.2.2.2.1))) 3 (.val (.int .i64 b.2.2.2.2))), (upd RZ 1 (.sl true none 3 (some 1) [[.val (.string b.1), .val (.int .i64 b.2.1), .sl false none 6 none (b.2.2.1.map PendingSubmission.row)]]))⟩) (r1.1.Name, r1.1.Next, r1.1.Open, r1.2, 0) h ?_ ?_)))
  · refine weak_roots ?_ ?_ <;> repeat' first | exact xn | exact rn | refine xc ?_ ?_ | refine rc ?_ ?_ ?_ | rfl
  rintro n ⟨s3, v4, l5, v6, v7⟩ h -
  cases n with
  | zero => simp [law34_awake_L1] at h
  | succ n =>
  simp only [law34_awake_L1] at h
  refine Wk_seq ?_
  apply Wk_join1 (fun (c16 : Bool) => ⟨tab 98 (updT (updT (updT (updT deadT 1 (.pref 1 [] 0 0)) 2 (.val (.int .i64 v6))) 3 (.val (.int .i64 v7))) 16 (.val (.bool c16))), (upd RZ 1 (.sl true none 3 (some 1) [[.val (.string s3), .val (.int .i64 v4), .sl false none 6 none (l5.map PendingSubmission.row)]]))⟩)
  · intro hJ2
    refine Wk_regionZ fun Z hZ => ?_
    simp only [go_sem, seval]
    refine RX_guard_dec rfl (fun hc3 => ?_) (fun hc3 => ?_)
    · have hc3d := decide_eq_true hc3
      rw [if_pos hc3] at h
      simp only [go_sem, seval, hc3d]
      refine hZ _ (pp (hJ2 _ (decide (v6 = 0)) ?_ h))
      refine weak_roots ?_ ?_ <;> repeat' first | exact xn | exact rn | refine xc ?_ ?_ | refine rc ?_ ?_ ?_ | rfl
    have hc3d := decide_eq_false hc3
    rw [if_neg hc3] at h
    simp only [go_sem, seval, hc3d]
    refine hZ _ (pp (hJ2 _ false ?_ h))
    refine weak_roots ?_ ?_ <;> repeat' first | exact xn | exact rn | refine xc ?_ ?_ | refine rc ?_ ?_ ?_ | rfl
  intro c16 h
  unfold law34_awake_J1 at h
  refine Wk_cond_bool rfl (fun hc4 => ?_) (fun hc4 => ?_)
  · rw [if_pos hc4] at h
    refine Wk_skip (pp ?_)
    unfold law34_awake_J2 at h
    refine Wk_seq (Wk_block ?_)
    obtain ⟨r17, hr5, h⟩ := Option.bind_eq_some_iff.1 h
    obtain ⟨r18, hr6, h⟩ := Option.bind_eq_some_iff.1 h
    refine Wk_regionH fun Y hY => ?_
    refine RX2_s rfl rfl fun Z hZ => ?_
    simp only [go_sem, seval, hc4]
    repeat with_reducible refine and_bar (by kernel_rfl) ?_
    refine hZ _ ?_
    refine RX2_s rfl rfl fun Z hZ => ?_
    simp only [go_sem, seval, hr5]
    refine hZ _ ?_
    refine RX2_s rfl rfl fun Z hZ => ?_
    simp only [go_sem, seval, hr6]
    refine hZ _ ?_
    refine RX2_s rfl rfl fun Z hZ => ?_
    simp only [go_sem, seval]
    refine hZ _ ?_
    refine RX2_s rfl rfl fun Z hZ => ?_
    simp only [go_sem, seval]
    refine hZ _ ?_
    refine RX2_s rfl rfl fun Z hZ => ?_
    simp only [go_sem, seval]
    refine hZ _ ?_
    refine RX2_s rfl rfl fun Z hZ => ?_
    simp only [go_sem, seval]
    refine hZ _ ?_
    refine RX2_w fun Z hZ => ?_
    simp only [go_sem, seval]
    refine hZ _ ?_
    refine RX2_s rfl rfl fun Z hZ => ?_
    simp only [go_sem, seval]
    refine hZ _ ?_
    refine RX2_end (by kernel_rfl) (hY _ (pp (Wk_regionZ fun Z hZ => ?_)))
    simp only [go_sem, seval]
    refine hZ _ (pp (⟨_, Nat.lt_succ_self _, (r18.1.Name, r18.1.Next, r18.1.Open, r18.2.2, IntKind.i64.wrap (v7 + 1)), ?_, h⟩))
    refine weak_roots ?_ ?_ <;> repeat' first | exact xn | exact rn | refine xc ?_ ?_ | refine rc ?_ ?_ ?_ | rfl
  rw [if_neg (ne_true_of_eq_false hc4)] at h
  refine Wk_exit (pp ?_)
  unfold law34_awake_J9 at h
  refine Wk_seq ?_
  apply Wk_join1 (fun (c25 : Bool) => ⟨tab 98 (updT (updT deadT 1 (.pref 1 [] 0 0)) 43 (.val (.bool c25))), (upd RZ 1 (.sl true none 3 (some 1) [[.val (.string s3), .val (.int .i64 v4), .sl false none 6 none (l5.map PendingSubmission.row)]]))⟩)
  · intro hJ7
    refine Wk_regionZ fun Z hZ => ?_
    simp only [go_sem, seval, hc4]
    refine RX_guard_ndec rfl (fun hc8 => ?_) (fun hc8 => ?_)
    · have hc8d := decide_eq_false hc8
      rw [if_neg hc8] at h
      simp only [go_sem, seval, hc8d]
      refine hZ _ (pp (hJ7 _ true ?_ h))
      refine weak_roots ?_ ?_ <;> repeat' first | exact xn | exact rn | refine xc ?_ ?_ | refine rc ?_ ?_ ?_ | rfl
    have hc8d := decide_eq_true hc8
    rw [if_pos hc8] at h
    obtain ⟨r26, hr9, h⟩ := Option.bind_eq_some_iff.1 h
    simp only [go_sem, seval, hc8d, hr9]
    refine RX_guard_ndec rfl (fun hc10 => ?_) (fun hc10 => ?_)
    · have hc10d := decide_eq_false hc10
      rw [if_neg hc10] at h
      simp only [go_sem, seval, hc10d]
      refine hZ _ (pp (hJ7 _ true ?_ h))
      refine weak_roots ?_ ?_ <;> repeat' first | exact xn | exact rn | refine xc ?_ ?_ | refine rc ?_ ?_ ?_ | rfl
    have hc10d := decide_eq_true hc10
    rw [if_pos hc10] at h
    obtain ⟨r27, hr11, h⟩ := Option.bind_eq_some_iff.1 h
    simp only [go_sem, seval, hc10d, hr11]
    refine RX_guard_nbool rfl (fun hc12 => ?_) (fun hc12 => ?_)
    · rw [if_neg (ne_true_of_eq_false hc12)] at h
      simp only [go_sem, seval, hc12]
      refine hZ _ (pp (hJ7 _ true ?_ h))
      refine weak_roots ?_ ?_ <;> repeat' first | exact xn | exact rn | refine xc ?_ ?_ | refine rc ?_ ?_ ?_ | rfl
    rw [if_pos hc12] at h
    simp only [go_sem, seval, hc12]
    refine hZ _ (pp (hJ7 _ (!decide (((l5.length : Nat) : Int) = 3)) ?_ h))
    refine weak_roots ?_ ?_ <;> repeat' first | exact xn | exact rn | refine xc ?_ ?_ | refine rc ?_ ?_ ?_ | rfl
  intro c25 h
  unfold law34_awake_J3 at h
  refine Wk_cond_bool rfl (fun hc13 => ?_) (fun hc13 => ?_)
  · rw [if_pos hc13] at h
    refine Wk_seq (Wk_regionZ fun Z hZ => ?_)
    simp only [go_sem, seval, hc13]
    refine hZ _ (pp (Wk_ret (pp ?_)))
    cases h
    simp only [go_sem, seval]
    exact ⟨_, rfl, RokI.h, PureI.h⟩
  rw [if_neg (ne_true_of_eq_false hc13)] at h
  refine Wk_skip (pp ?_)
  unfold law34_awake_J8 at h
  refine Wk_seq ?_
  obtain ⟨r28, hr14, h⟩ := Option.bind_eq_some_iff.1 h
  refine Wk_regionZ fun Z hZ => ?_
  simp only [go_sem, seval, hc13, hr14]
  refine hZ _ (pp (Wk_seq ?_))
  apply Wk_join1 (fun (c33 : Bool) => ⟨tab 98 (updT (updT deadT 1 (.pref 1 [] 0 0)) 56 (.val (.bool c33))), (upd RZ 1 (.sl true none 3 (some 1) [Session.row r28.1]))⟩)
  · intro hJ15
    refine Wk_regionZ fun Z hZ => ?_
    simp only [go_sem, seval]
    refine RX_guard_nbool rfl (fun hc16 => ?_) (fun hc16 => ?_)
    · rw [if_neg (ne_true_of_eq_false hc16)] at h
      simp only [go_sem, seval, hc16]
      refine hZ _ (pp (hJ15 _ true ?_ h))
      refine weak_roots ?_ ?_ <;> repeat' first | exact xn | exact rn | refine xc ?_ ?_ | refine rc ?_ ?_ ?_ | rfl
    rw [if_pos hc16] at h
    obtain ⟨r34, hr17, h⟩ := Option.bind_eq_some_iff.1 h
    simp only [go_sem, seval, hc16, hr17]
    refine hZ _ (pp (hJ15 _ (!decide (r34 = 0)) ?_ h))
    refine weak_roots ?_ ?_ <;> repeat' first | exact xn | exact rn | refine xc ?_ ?_ | refine rc ?_ ?_ ?_ | rfl
  intro c33 h
  unfold law34_awake_J4 at h
  refine Wk_cond_bool rfl (fun hc18 => ?_) (fun hc18 => ?_)
  · rw [if_pos hc18] at h
    refine Wk_seq (Wk_regionZ fun Z hZ => ?_)
    simp only [go_sem, seval, hc18]
    refine hZ _ (pp (Wk_ret (pp ?_)))
    cases h
    simp only [go_sem, seval]
    exact ⟨_, rfl, RokI.h, PureI.h⟩
  rw [if_neg (ne_true_of_eq_false hc18)] at h
  refine Wk_skip (pp ?_)
  unfold law34_awake_J7 at h
  refine Wk_seq ?_
  obtain ⟨r35, hr19, h⟩ := Option.bind_eq_some_iff.1 h
  refine Wk_regionZ fun Z hZ => ?_
  simp only [go_sem, seval, hc18, hr19]
  refine hZ _ (pp (Wk_seq ?_))
  apply Wk_join1 (fun (c40 : Bool) => ⟨tab 98 (updT (updT deadT 1 (.pref 1 [] 0 0)) 69 (.val (.bool c40))), (upd RZ 1 (.sl true none 3 (some 1) [Session.row r35.1]))⟩)
  · intro hJ20
    refine Wk_regionZ fun Z hZ => ?_
    simp only [go_sem, seval]
    refine RX_guard_nbool rfl (fun hc21 => ?_) (fun hc21 => ?_)
    · rw [if_neg (ne_true_of_eq_false hc21)] at h
      simp only [go_sem, seval, hc21]
      refine hZ _ (pp (hJ20 _ true ?_ h))
      refine weak_roots ?_ ?_ <;> repeat' first | exact xn | exact rn | refine xc ?_ ?_ | refine rc ?_ ?_ ?_ | rfl
    rw [if_pos hc21] at h
    obtain ⟨r41, hr22, h⟩ := Option.bind_eq_some_iff.1 h
    simp only [go_sem, seval, hc21, hr22]
    refine hZ _ (pp (hJ20 _ (!decide (r41 = 2)) ?_ h))
    refine weak_roots ?_ ?_ <;> repeat' first | exact xn | exact rn | refine xc ?_ ?_ | refine rc ?_ ?_ ?_ | rfl
  intro c40 h
  unfold law34_awake_J5 at h
  refine Wk_cond_bool rfl (fun hc23 => ?_) (fun hc23 => ?_)
  · rw [if_pos hc23] at h
    refine Wk_seq (Wk_regionZ fun Z hZ => ?_)
    simp only [go_sem, seval, hc23]
    refine hZ _ (pp (Wk_ret (pp ?_)))
    cases h
    simp only [go_sem, seval]
    exact ⟨_, rfl, RokI.h, PureI.h⟩
  rw [if_neg (ne_true_of_eq_false hc23)] at h
  refine Wk_skip (pp ?_)
  unfold law34_awake_J6 at h
  refine Wk_seq ?_
  obtain ⟨r42, hr24, h⟩ := Option.bind_eq_some_iff.1 h
  refine Wk_regionZ fun Z hZ => ?_
  simp only [go_sem, seval, hc23, hr24]
  refine hZ _ (pp (Wk_seq (Wk_regionZ fun Z hZ => ?_)))
  simp only [go_sem, seval]
  refine sw (RX_guard_dec rfl) (fun hc25 => ?_) (fun hc25 => ?_)
  · have hc25d := decide_eq_false hc25
    rw [if_neg hc25] at h
    simp only [go_sem, seval, hc25d]
    refine hZ _ (pp (Wk_ret (pp ?_)))
    cases h
    simp only [go_sem, seval]
    exact ⟨_, rfl, RokI.h, PureI.h⟩
  have hc25d := decide_eq_true hc25
  rw [if_pos hc25] at h
  obtain ⟨x43, hb26, hx27, h⟩ := gx_some h
  try simp only [Int.toNat_zero] at hx27
  try simp only [Int.ofNat_lt, Int.natCast_nonneg, true_and] at hb26
  simp only [go_sem, seval, hc25d, hb26, hx27]
  refine sw (RX_guard_dec rfl) (fun hc28 => ?_) (fun hc28 => ?_)
  · have hc28d := decide_eq_false hc28
    rw [if_neg hc28] at h
    simp only [go_sem, seval, hc28d]
    refine hZ _ (pp (Wk_ret (pp ?_)))
    cases h
    simp only [go_sem, seval]
    exact ⟨_, rfl, RokI.h, PureI.h⟩
  have hc28d := decide_eq_true hc28
  rw [if_pos hc28] at h
  simp only [go_sem, seval, hb26, hx27, hc28d]
  refine RX_guard_dec rfl (fun hc29 => ?_) (fun hc29 => ?_)
  · have hc29d := decide_eq_true hc29
    rw [if_pos hc29] at h
    obtain ⟨r44, hr30, h⟩ := Option.bind_eq_some_iff.1 h
    simp only [go_sem, seval, hb26, hx27, hc29d, hr30]
    refine hZ _ (pp (Wk_ret (pp ?_)))
    cases h
    simp only [go_sem, seval]
    exact ⟨_, rfl, RokI.h, PureI.h⟩
  have hc29d := decide_eq_false hc29
  rw [if_neg hc29] at h
  simp only [go_sem, seval, hc29d]
  refine hZ _ (pp (Wk_ret (pp ?_)))
  cases h
  simp only [go_sem, seval]
  exact ⟨_, rfl, RokI.h, PureI.h⟩
def fs_law34_awake (N : Nat) : FnS := { own := [], pure := true, fn := fun cs => match cs with
  | [] =>  (law34_awake N ).map fun r => .val (.bool r)
  | _ => none }
attribute [go_sem] fs_law34_awake
theorem fs_law34_awake_ok (N : Nat) : FSOk Try.prog 7 (fs_law34_awake N) := by
  refine ⟨fun cs r h => ?_, fun h => by cases h⟩
  simp only [fs_law34_awake] at h
  split at h
  · simp only [Option.map_eq_some_iff] at h
    obtain ⟨r', hr, rfl⟩ := h
    exact ((w_law34_awake N  r' hr).args (LeL.nil))
  · cases h


theorem w_law34_reply (N : Nat) (a0 : Session) (a1 : actorgridlaw34_Act) (r : Int) (h : law34_reply N a0 a1 = some r) : Con Try.prog 15 [] true [.agg (Session.row a0), .agg (actorgridlaw34_Act.row a1)] (.val (.int .i64 r)) := by
  refine fun_ok4 (G := (glist [])) Try.func15 rfl (by decide) (by kernel_rfl) gn [] mix (Nat.le_of_ble_eq_true rfl) ?_
  simp only [Try.f15]
  unfold law34_reply at h
  refine Wk_seq (Wk_regionZ fun Z hZ => ?_)
  simp only [go_sem, seval]
  refine hZ _ (pp (Wk_seq (Wk_regionZ fun Z hZ => ?_)))
  simp only [go_sem, seval]
  refine hZ _ (pp (Wk_ret (pp ?_)))
  cases h
  simp only [go_sem, seval]
  exact ⟨_, rfl, RokI.h, PureI.h⟩
def fs_law34_reply (N : Nat) : FnS := ⟨[], true, fn2 Session.decA actorgridlaw34_Act.decA fun q0 q1 => (law34_reply N q0 q1).map fun r => .val (.int .i64 r), false⟩
attribute [go_sem] fs_law34_reply
theorem fs_law34_reply_ok (N : Nat) : FSOk Try.prog 15 (fs_law34_reply N) := ok2 (fun q0 q1 r h => by
  obtain ⟨r', hr, rfl⟩ := Option.map_eq_some_iff.1 h
  exact w_law34_reply N q0 q1 r' hr) (Session.decA_le) (actorgridlaw34_Act.decA_le)


noncomputable def G_law34_play (N d f : Nat) : Option FnS := glist [(29, 14, fs_law34_call N), (30, 21, fs_session_Submit N), (43, 19, fs_session_Resend N), (51, 15, fs_law34_reply N), (53, 22, fs_session_Accept N)] d f
attribute [go_sem] G_law34_play
theorem w_law34_play (N : Nat) (a0 : Session) (a1 : Int) (a2 : actorgridlaw34_Act) (r : Session × Bool × Bool) (h : law34_play N a0 a1 a2 = some r) : Con Try.prog 16 [] false [.agg (Session.row a0), .val (.int .i64 a1), .agg (actorgridlaw34_Act.row a2)] (.tup [.agg (Session.row r.1), .val (.bool r.2.1), .val (.bool r.2.2)]) := by
  refine fun_ok4 (G := (G_law34_play N)) Try.func16 rfl (by decide) (by kernel_rfl) (gc 29 (fs_law34_call_ok N) (gc 30 (fs_session_Submit_ok N) (gc 43 (fs_session_Resend_ok N) (gc 51 (fs_law34_reply_ok N) (gc 53 (fs_session_Accept_ok N) gn))))) [] mix (Nat.le_of_ble_eq_true rfl) ?_
  simp only [Try.f16]
  unfold law34_play at h
  refine Wk_seq (Wk_regionZ fun Z hZ => ?_)
  simp only [go_sem, seval]
  refine hZ _ (pp (Wk_seq (Wk_seq (Wk_regionZ fun Z hZ => ?_))))
  simp only [go_sem, seval]
  refine hZ _ (pp (Wk_block ?_))
  apply Wk_join1 (fun (c7 : Bool) => ⟨tab 58 (updT (updT (updT (updT (updT (updT deadT 1 (.val (.int .i64 a1))) 3 (.pref 3 [] 0 0)) 5 (.pref 5 [] 0 0)) 6 (.pref 6 [] 0 0)) 18 (.val (.int .u8 (Int.tmod a2.Kind 4)))) 19 (.val (.bool c7))), (upd (upd (upd RZ 3 (.sl true none 3 (some 1) [Session.row a0])) 5 (.sl true none 3 (some 1) [actorgridlaw34_Act.row a2])) 6 (.sl true none 3 (some 1) [[.val (.string (⟨#[]⟩)), .val (.int .i64 0), .val (.slice none 0 0)]]))⟩)
  · intro hJ1
    refine Wk_seq (Wk_regionZ fun Z hZ => ?_)
    simp only [go_sem, seval]
    refine hZ _ (pp (Wk_cond_dec rfl (fun hc2 => ?_) (fun hc2 => ?_)))
    · have hc2d := decide_eq_true hc2
      rw [if_pos hc2] at h
      refine Wk_skip (pp (hJ1 _ true ?_ h))
      refine weak_roots ?_ ?_ <;> repeat' first | exact xn | exact rn | refine xc ?_ ?_ | refine rc ?_ ?_ ?_ | rfl | simp only [go_sem, seval, hc2d]
    have hc2d := decide_eq_false hc2
    rw [if_neg hc2] at h
    refine Wk_regionZ fun Z hZ => ?_
    simp only [go_sem, seval, hc2d]
    refine hZ _ (pp (hJ1 _ (decide ((Int.tmod a2.Kind 4) = 1)) ?_ h))
    refine weak_roots ?_ ?_ <;> repeat' first | exact xn | exact rn | refine xc ?_ ?_ | refine rc ?_ ?_ ?_ | rfl | simp only [go_sem, seval, Bool.or_self, List.length_set, Int.natCast_zero, Int.cast_ofNat_Int, hc2d]
  intro c7 h
  unfold law34_play_J1 at h
  refine Wk_cond_bool rfl (fun hc3 => ?_) (fun hc3 => ?_)
  · rw [if_pos hc3] at h
    refine Wk_seq ?_
    obtain ⟨r8, hr4, h⟩ := Option.bind_eq_some_iff.1 h
    obtain ⟨r9, hr5, h⟩ := Option.bind_eq_some_iff.1 h
    refine Wk_regionH fun Y hY => ?_
    refine RX2_s rfl rfl fun Z hZ => ?_
    simp only [go_sem, seval, hc3]
    repeat with_reducible refine and_bar (by kernel_rfl) ?_
    refine hZ _ ?_
    refine RX2_s rfl rfl fun Z hZ => ?_
    simp only [go_sem, seval]
    refine hZ _ ?_
    refine RX2_s rfl rfl fun Z hZ => ?_
    simp only [go_sem, seval]
    refine hZ _ ?_
    refine RX2_s rfl rfl fun Z hZ => ?_
    simp only [go_sem, seval]
    refine hZ _ ?_
    refine RX2_s rfl rfl fun Z hZ => ?_
    simp only [go_sem, seval]
    refine hZ _ ?_
    refine RX2_s rfl rfl fun Z hZ => ?_
    simp only [go_sem, seval]
    refine hZ _ ?_
    refine RX2_s rfl rfl fun Z hZ => ?_
    simp only [go_sem, seval, hr4]
    refine hZ _ ?_
    refine RX2_s rfl rfl fun Z hZ => ?_
    simp only [go_sem, seval, hr5]
    refine hZ _ ?_
    refine RX2_s rfl rfl fun Z hZ => ?_
    simp only [go_sem, seval]
    refine hZ _ ?_
    refine RX2_s rfl rfl fun Z hZ => ?_
    simp only [go_sem, seval]
    refine hZ _ ?_
    refine RX2_s rfl rfl fun Z hZ => ?_
    simp only [go_sem, seval]
    refine hZ _ ?_
    refine RX2_s rfl rfl fun Z hZ => ?_
    simp only [go_sem, seval]
    refine hZ _ ?_
    refine RX2_s rfl rfl fun Z hZ => ?_
    simp only [go_sem, seval]
    refine hZ _ ?_
    refine RX2_s rfl rfl fun Z hZ => ?_
    simp only [go_sem, seval]
    refine hZ _ ?_
    refine RX2_w fun Z hZ => ?_
    simp only [go_sem, seval]
    refine hZ _ ?_
    refine RX2_w fun Z hZ => ?_
    simp only [go_sem, seval]
    refine hZ _ ?_
    refine RX2_s rfl rfl fun Z hZ => ?_
    simp only [go_sem, seval]
    refine hZ _ ?_
    refine RX2_end (by kernel_rfl) (hY _ (pp (Wk_seq (Wk_seq (Wk_regionZ fun Z hZ => ?_)))))
    simp only [go_sem, seval]
    refine hZ _ (pp (Wk_cond_ndec rfl (fun hc6 => ?_) (fun hc6 => ?_)))
    · have hc6d := decide_eq_false hc6
      rw [if_neg hc6] at h
      refine Wk_seq (Wk_regionZ fun Z hZ => ?_)
      simp only [go_sem, seval, hc6d]
      refine hZ _ (pp (Wk_ret (pp ?_)))
      cases h
      simp only [go_sem, seval]
      exact ⟨_, rfl, RokI.h⟩
    have hc6d := decide_eq_true hc6
    rw [if_pos hc6] at h
    refine Wk_skip (pp (Wk_seq (Wk_regionZ fun Z hZ => ?_)))
    simp only [go_sem, seval, hc6d]
    refine hZ _ (pp (Wk_ret (pp ?_)))
    cases h
    simp only [go_sem, seval]
    exact ⟨_, rfl, RokI.h⟩
  rw [if_neg (ne_true_of_eq_false hc3)] at h
  refine Wk_seq (Wk_regionZ fun Z hZ => ?_)
  simp only [go_sem, seval, hc3]
  refine hZ _ (pp (Wk_cond_dec rfl (fun hc7 => ?_) (fun hc7 => ?_)))
  · have hc7d := decide_eq_true hc7
    rw [if_pos hc7] at h
    refine Wk_seq ?_
    obtain ⟨r10, hr8, h⟩ := Option.bind_eq_some_iff.1 h
    refine Wk_regionZ fun Z hZ => ?_
    simp only [go_sem, seval, hc7d, hr8]
    refine hZ _ (pp (Wk_seq (Wk_regionZ fun Z hZ => ?_)))
    simp only [go_sem, seval]
    refine hZ _ (pp (Wk_ret (pp ?_)))
    cases h
    simp only [go_sem, seval]
    exact ⟨_, rfl, RokI.h⟩
  have hc7d := decide_eq_false hc7
  rw [if_neg hc7] at h
  refine Wk_skip (pp ?_)
  unfold law34_play_J2 at h
  refine Wk_seq ?_
  obtain ⟨r11, hr9, h⟩ := Option.bind_eq_some_iff.1 h
  obtain ⟨r12, hr10, h⟩ := Option.bind_eq_some_iff.1 h
  refine Wk_regionH fun Y hY => ?_
  refine RX2_s rfl rfl fun Z hZ => ?_
  simp only [go_sem, seval, hc7d]
  repeat with_reducible refine and_bar (by kernel_rfl) ?_
  refine hZ _ ?_
  refine RX2_s rfl rfl fun Z hZ => ?_
  simp only [go_sem, seval]
  refine hZ _ ?_
  refine RX2_s rfl rfl fun Z hZ => ?_
  simp only [go_sem, seval]
  refine hZ _ ?_
  refine RX2_s rfl rfl fun Z hZ => ?_
  simp only [go_sem, seval, hr9]
  refine hZ _ ?_
  refine RX2_s rfl rfl fun Z hZ => ?_
  simp only [go_sem, seval]
  refine hZ _ ?_
  refine RX2_s rfl rfl fun Z hZ => ?_
  simp only [go_sem, seval, hr10]
  refine hZ _ ?_
  refine RX2_s rfl rfl fun Z hZ => ?_
  simp only [go_sem, seval]
  refine hZ _ ?_
  refine RX2_s rfl rfl fun Z hZ => ?_
  simp only [go_sem, seval]
  refine hZ _ ?_
  refine RX2_s rfl rfl fun Z hZ => ?_
  simp only [go_sem, seval]
  refine hZ _ ?_
  refine RX2_s rfl rfl fun Z hZ => ?_
  simp only [go_sem, seval]
  refine hZ _ ?_
  refine RX2_w fun Z hZ => ?_
  simp only [go_sem, seval]
  refine hZ _ ?_
  refine RX2_s rfl rfl fun Z hZ => ?_
  simp only [go_sem, seval]
  refine hZ _ ?_
  refine RX2_end (by kernel_rfl) (hY _ (pp (Wk_seq (Wk_regionZ fun Z hZ => ?_))))
  simp only [go_sem, seval]
  refine hZ _ (pp (Wk_ret (pp ?_)))
  cases h
  simp only [go_sem, seval]
  exact ⟨_, rfl, RokI.h⟩
def fs_law34_play (N : Nat) : FnS := ⟨[], false, fn3 Session.decA (decI .i64) actorgridlaw34_Act.decA fun q0 q1 q2 => (law34_play N q0 q1 q2).map fun r => .tup [.agg (Session.row r.1), .val (.bool r.2.1), .val (.bool r.2.2)], false⟩
attribute [go_sem] fs_law34_play
theorem fs_law34_play_ok (N : Nat) : FSOk Try.prog 16 (fs_law34_play N) := ok3 (fun q0 q1 q2 r h => by
  obtain ⟨r', hr, rfl⟩ := Option.map_eq_some_iff.1 h
  exact w_law34_play N q0 q1 q2 r' hr) (Session.decA_le) (decI_le) (actorgridlaw34_Act.decA_le)


theorem w_ref1_SameInts (N : Nat) (a0 : (List Int)) (a1 : (List Int)) (r : Bool) (h : ref1_SameInts N a0 a1 = some r) : Con Try.prog 70 [] true [.sl false none 1 none (a0.map (rowI .i64)), .sl false none 1 none (a1.map (rowI .i64))] (.val (.bool r)) := by
  refine fun_ok4 (G := (glist [])) Try.func70 rfl (by decide) (by kernel_rfl) gn [] mix (Nat.le_of_ble_eq_true rfl) ?_
  simp only [Try.f70]
  unfold ref1_SameInts at h
  refine Wk_seq (Wk_regionZ fun Z hZ => ?_)
  simp only [go_sem, seval]
  refine hZ _ (pp (Wk_seq (Wk_seq (Wk_regionZ fun Z hZ => ?_))))
  simp only [go_sem, seval]
  refine hZ _ (pp (Wk_cond_ndec rfl (fun hc1 => ?_) (fun hc1 => ?_)))
  · have hc1d := decide_eq_false hc1
    rw [if_neg hc1] at h
    refine Wk_seq (Wk_regionZ fun Z hZ => ?_)
    simp only [go_sem, seval, hc1d]
    refine hZ _ (pp (Wk_ret (pp ?_)))
    cases h
    simp only [go_sem, seval]
    exact ⟨_, rfl, RokI.h, PureI.h⟩
  have hc1d := decide_eq_true hc1
  rw [if_pos hc1] at h
  refine Wk_skip (pp (Wk_seq (Wk_seq (Wk_regionZ fun Z hZ => ?_))))
  simp only [go_sem, seval, hc1d]
  refine hZ _ (pp (Wk_block (Wk_real fun hreal3 => ?_)))
  have hl2 := hreal3.lenT 0 (by decide) (by simp only [go_sem, seval]; rfl)
  rw [List.length_map] at hl2
  refine Wk_range (fun (v3 : Nat) (b : Unit) => ⟨tab 26 (updT (updT (updT deadT 0 (.sl false none 1 none (a0.map (rowI .i64)))) 1 (.sl false none 1 none (a1.map (rowI .i64)))) 5 (.val (.int .i64 ((v3 : Nat) : Int)))), RZ⟩) () h ?_ ?_
  · refine weak_roots ?_ ?_ <;> repeat' first | exact xn | exact rn | refine xc ?_ ?_ | refine rc ?_ ?_ ?_ | rfl
  rintro v3 ⟨⟩ hi4 h -
  rcases (drop_cases a0 v3 hi4).symm with ⟨hi4', _, hd7⟩ | ⟨x6, hi4', hx5, hd7⟩
  · rw [hd7] at h
    simp only [ref1_SameInts_L1] at h
    refine Wk_seq (Wk_seq (Wk_regionZ fun Z hZ => ?_))
    simp only [go_sem, seval, hi4']
    refine hZ _ (pp ?_)
    try simp only [Int.ofNat_lt, hi4', if_true, if_false] at h
    refine Wk_cond_f rfl (Wk_exit (pp (Wk_seq (Wk_regionZ fun Z hZ => ?_))))
    simp only [go_sem, seval]
    refine hZ _ (pp (Wk_ret (pp ?_)))
    cases h
    simp only [go_sem, seval]
    exact ⟨_, rfl, RokI.h, PureI.h⟩
  rw [hd7] at h
  simp only [ref1_SameInts_L1] at h
  have hw6 := wrap_succ hi4' hl2
  refine Wk_seq (Wk_seq (Wk_regionZ fun Z hZ => ?_))
  simp only [go_sem, seval, hi4']
  refine hZ _ (pp ?_)
  try simp only [Int.ofNat_lt, hi4', if_true, if_false] at h
  refine Wk_cond_t rfl (Wk_skip (pp (Wk_seq (Wk_block (Wk_seq ?_)))))
  try rw [gx_nat hx5] at h
  obtain ⟨x1, hb8, hx9, h⟩ := gx_some h
  try simp only [Int.toNat_natCast] at hx9
  try simp only [Int.ofNat_lt, Int.natCast_nonneg, true_and] at hb8
  refine Wk_regionD fun Z hZ => ?_
  simp only [go_sem, seval, hx5, hi4', hb8, hx9]
  refine hZ _ (by kernel_rfl) (pp (Wk_cond_ndec rfl (fun hc10 => ?_) (fun hc10 => ?_)))
  · have hc10d := decide_eq_false hc10
    rw [if_neg hc10] at h
    refine Wk_seq (Wk_regionZ fun Z hZ => ?_)
    simp only [go_sem, seval, hc10d]
    refine hZ _ (pp (Wk_ret (pp ?_)))
    cases h
    simp only [go_sem, seval]
    exact ⟨_, rfl, RokI.h, PureI.h⟩
  have hc10d := decide_eq_true hc10
  rw [if_pos hc10] at h
  refine Wk_skip (pp (Wk_regionZ fun Z hZ => ?_))
  simp only [go_sem, seval, hw6, hc10d]
  refine hZ _ (pp ?_)
  first | refine ⟨(), ?_, h⟩ | refine ⟨hi4', (), ?_, h⟩
  refine weak_roots ?_ ?_ <;> repeat' first | exact xn | exact rn | refine xc ?_ ?_ | refine rc ?_ ?_ ?_ | rfl
def fs_ref1_SameInts (N : Nat) : FnS := ⟨[], true, fn2 (decL 1 (dec1 (decI .i64))) (decL 1 (dec1 (decI .i64))) fun q0 q1 => (ref1_SameInts N q0 q1).map fun r => .val (.bool r), false⟩
attribute [go_sem] fs_ref1_SameInts
theorem fs_ref1_SameInts_ok (N : Nat) : FSOk Try.prog 70 (fs_ref1_SameInts N) := ok2 (fun q0 q1 r h => by
  obtain ⟨r', hr, rfl⟩ := Option.map_eq_some_iff.1 h
  exact w_ref1_SameInts N q0 q1 r' hr) (fun h => decL_le (decI1_le .i64) h) (fun h => decL_le (decI1_le .i64) h)


theorem w_ref1_SameStrings (N : Nat) (a0 : (List ByteArray)) (a1 : (List ByteArray)) (r : Bool) (h : ref1_SameStrings N a0 a1 = some r) : Con Try.prog 71 [] true [.sl false none 1 none (a0.map rowS), .sl false none 1 none (a1.map rowS)] (.val (.bool r)) := by
  refine fun_ok4 (G := (glist [])) Try.func71 rfl (by decide) (by kernel_rfl) gn [] mix (Nat.le_of_ble_eq_true rfl) ?_
  simp only [Try.f71]
  unfold ref1_SameStrings at h
  refine Wk_seq (Wk_regionZ fun Z hZ => ?_)
  simp only [go_sem, seval]
  refine hZ _ (pp (Wk_seq (Wk_seq (Wk_regionZ fun Z hZ => ?_))))
  simp only [go_sem, seval]
  refine hZ _ (pp (Wk_cond_ndec rfl (fun hc1 => ?_) (fun hc1 => ?_)))
  · have hc1d := decide_eq_false hc1
    rw [if_neg hc1] at h
    refine Wk_seq (Wk_regionZ fun Z hZ => ?_)
    simp only [go_sem, seval, hc1d]
    refine hZ _ (pp (Wk_ret (pp ?_)))
    cases h
    simp only [go_sem, seval]
    exact ⟨_, rfl, RokI.h, PureI.h⟩
  have hc1d := decide_eq_true hc1
  rw [if_pos hc1] at h
  refine Wk_skip (pp (Wk_seq (Wk_seq (Wk_regionZ fun Z hZ => ?_))))
  simp only [go_sem, seval, hc1d]
  refine hZ _ (pp (Wk_block (Wk_real fun hreal3 => ?_)))
  have hl2 := hreal3.lenT 0 (by decide) (by simp only [go_sem, seval]; rfl)
  rw [List.length_map] at hl2
  refine Wk_range (fun (v3 : Nat) (b : Unit) => ⟨tab 26 (updT (updT (updT deadT 0 (.sl false none 1 none (a0.map rowS))) 1 (.sl false none 1 none (a1.map rowS))) 5 (.val (.int .i64 ((v3 : Nat) : Int)))), RZ⟩) () h ?_ ?_
  · refine weak_roots ?_ ?_ <;> repeat' first | exact xn | exact rn | refine xc ?_ ?_ | refine rc ?_ ?_ ?_ | rfl
  rintro v3 ⟨⟩ hi4 h -
  rcases (drop_cases a0 v3 hi4).symm with ⟨hi4', _, hd7⟩ | ⟨x6, hi4', hx5, hd7⟩
  · rw [hd7] at h
    simp only [ref1_SameStrings_L1] at h
    refine Wk_seq (Wk_seq (Wk_regionZ fun Z hZ => ?_))
    simp only [go_sem, seval, hi4']
    refine hZ _ (pp ?_)
    try simp only [Int.ofNat_lt, hi4', if_true, if_false] at h
    refine Wk_cond_f rfl (Wk_exit (pp (Wk_seq (Wk_regionZ fun Z hZ => ?_))))
    simp only [go_sem, seval]
    refine hZ _ (pp (Wk_ret (pp ?_)))
    cases h
    simp only [go_sem, seval]
    exact ⟨_, rfl, RokI.h, PureI.h⟩
  rw [hd7] at h
  simp only [ref1_SameStrings_L1] at h
  have hw6 := wrap_succ hi4' hl2
  refine Wk_seq (Wk_seq (Wk_regionZ fun Z hZ => ?_))
  simp only [go_sem, seval, hi4']
  refine hZ _ (pp ?_)
  try simp only [Int.ofNat_lt, hi4', if_true, if_false] at h
  refine Wk_cond_t rfl (Wk_skip (pp (Wk_seq (Wk_block (Wk_seq ?_)))))
  try rw [gx_nat hx5] at h
  obtain ⟨x1, hb8, hx9, h⟩ := gx_some h
  try simp only [Int.toNat_natCast] at hx9
  try simp only [Int.ofNat_lt, Int.natCast_nonneg, true_and] at hb8
  refine Wk_regionD fun Z hZ => ?_
  simp only [go_sem, seval, hx5, hi4', hb8, hx9]
  refine hZ _ (by kernel_rfl) (pp (Wk_cond_nbool rfl (fun hc10 => ?_) (fun hc10 => ?_)))
  · rw [if_neg (ne_true_of_eq_false hc10)] at h
    refine Wk_seq (Wk_regionZ fun Z hZ => ?_)
    simp only [go_sem, seval, hc10]
    refine hZ _ (pp (Wk_ret (pp ?_)))
    cases h
    simp only [go_sem, seval]
    exact ⟨_, rfl, RokI.h, PureI.h⟩
  rw [if_pos hc10] at h
  refine Wk_skip (pp (Wk_regionZ fun Z hZ => ?_))
  simp only [go_sem, seval, hw6, hc10]
  refine hZ _ (pp ?_)
  first | refine ⟨(), ?_, h⟩ | refine ⟨hi4', (), ?_, h⟩
  refine weak_roots ?_ ?_ <;> repeat' first | exact xn | exact rn | refine xc ?_ ?_ | refine rc ?_ ?_ ?_ | rfl
def fs_ref1_SameStrings (N : Nat) : FnS := ⟨[], true, fn2 (decL 1 (dec1 decS)) (decL 1 (dec1 decS)) fun q0 q1 => (ref1_SameStrings N q0 q1).map fun r => .val (.bool r), false⟩
attribute [go_sem] fs_ref1_SameStrings
theorem fs_ref1_SameStrings_ok (N : Nat) : FSOk Try.prog 71 (fs_ref1_SameStrings N) := ok2 (fun q0 q1 r h => by
  obtain ⟨r', hr, rfl⟩ := Option.map_eq_some_iff.1 h
  exact w_ref1_SameStrings N q0 q1 r' hr) (fun h => decL_le decS1_le h) (fun h => decL_le decS1_le h)


noncomputable def G_ref1_SameValue (N d f : Nat) : Option FnS := glist [(29, 70, fs_ref1_SameInts N), (36, 71, fs_ref1_SameStrings N)] d f
attribute [go_sem] G_ref1_SameValue
theorem w_ref1_SameValue (N : Nat) (a0 : Value) (a1 : Value) (r : Bool) (h : ref1_SameValue N a0 a1 = some r) : Con Try.prog 68 [] true [.agg (Value.row a0), .agg (Value.row a1)] (.val (.bool r)) := by
  refine fun_ok4 (G := (G_ref1_SameValue N)) Try.func68 rfl (by decide) (by kernel_rfl) (gc 29 (fs_ref1_SameInts_ok N) (gc 36 (fs_ref1_SameStrings_ok N) gn)) [] mix (Nat.le_of_ble_eq_true rfl) ?_
  simp only [Try.f68]
  unfold ref1_SameValue at h
  refine Wk_seq (Wk_regionZ fun Z hZ => ?_)
  simp only [go_sem, seval]
  refine hZ _ (pp (Wk_seq (Wk_regionZ fun Z hZ => ?_)))
  simp only [go_sem, seval]
  refine sw (RX_guard_dec rfl) (fun hc1 => ?_) (fun hc1 => ?_)
  · have hc1d := decide_eq_false hc1
    rw [if_neg hc1] at h
    simp only [go_sem, seval, hc1d]
    refine hZ _ (pp (Wk_ret (pp ?_)))
    cases h
    simp only [go_sem, seval]
    exact ⟨_, rfl, RokI.h, PureI.h⟩
  have hc1d := decide_eq_true hc1
  rw [if_pos hc1] at h
  simp only [go_sem, seval, hc1d]
  refine sw (RX_guard_dec rfl) (fun hc2 => ?_) (fun hc2 => ?_)
  · have hc2d := decide_eq_false hc2
    rw [if_neg hc2] at h
    simp only [go_sem, seval, hc2d]
    refine hZ _ (pp (Wk_ret (pp ?_)))
    cases h
    simp only [go_sem, seval]
    exact ⟨_, rfl, RokI.h, PureI.h⟩
  have hc2d := decide_eq_true hc2
  rw [if_pos hc2] at h
  simp only [go_sem, seval, hc2d]
  refine sw (RX_guard_bool rfl) (fun hc3 => ?_) (fun hc3 => ?_)
  · rw [if_neg (ne_true_of_eq_false hc3)] at h
    simp only [go_sem, seval, hc3]
    refine hZ _ (pp (Wk_ret (pp ?_)))
    cases h
    simp only [go_sem, seval]
    exact ⟨_, rfl, RokI.h, PureI.h⟩
  rw [if_pos hc3] at h
  obtain ⟨r1, hr4, h⟩ := Option.bind_eq_some_iff.1 h
  simp only [go_sem, seval, hc3, hr4]
  refine RX_guard_bool rfl (fun hc5 => ?_) (fun hc5 => ?_)
  · rw [if_pos hc5] at h
    obtain ⟨r2, hr6, h⟩ := Option.bind_eq_some_iff.1 h
    simp only [go_sem, seval, hc5, hr6]
    refine hZ _ (pp (Wk_ret (pp ?_)))
    cases h
    simp only [go_sem, seval]
    exact ⟨_, rfl, RokI.h, PureI.h⟩
  rw [if_neg (ne_true_of_eq_false hc5)] at h
  simp only [go_sem, seval, hc5]
  refine hZ _ (pp (Wk_ret (pp ?_)))
  cases h
  simp only [go_sem, seval]
  exact ⟨_, rfl, RokI.h, PureI.h⟩
def fs_ref1_SameValue (N : Nat) : FnS := ⟨[], true, fn2 Value.decA Value.decA fun q0 q1 => (ref1_SameValue N q0 q1).map fun r => .val (.bool r), false⟩
attribute [go_sem] fs_ref1_SameValue
theorem fs_ref1_SameValue_ok (N : Nat) : FSOk Try.prog 68 (fs_ref1_SameValue N) := ok2 (fun q0 q1 r h => by
  obtain ⟨r', hr, rfl⟩ := Option.map_eq_some_iff.1 h
  exact w_ref1_SameValue N q0 q1 r' hr) (Value.decA_le) (Value.decA_le)


noncomputable def G_ref32_SameValues (N d f : Nat) : Option FnS := glist [(25, 68, fs_ref1_SameValue N)] d f
attribute [go_sem] G_ref32_SameValues
theorem w_ref32_SameValues (N : Nat) (a0 : (List Value)) (a1 : (List Value)) (r : Bool) (h : ref32_SameValues N a0 a1 = some r) : Con Try.prog 59 [] true [.sl false none 5 none (a0.map Value.row), .sl false none 5 none (a1.map Value.row)] (.val (.bool r)) := by
  refine fun_ok4 (G := (G_ref32_SameValues N)) Try.func59 rfl (by decide) (by kernel_rfl) (gc 25 (fs_ref1_SameValue_ok N) gn) [] mix (Nat.le_of_ble_eq_true rfl) ?_
  simp only [Try.f59]
  unfold ref32_SameValues at h
  refine Wk_seq (Wk_regionZ fun Z hZ => ?_)
  simp only [go_sem, seval]
  refine hZ _ (pp (Wk_seq (Wk_seq (Wk_regionZ fun Z hZ => ?_))))
  simp only [go_sem, seval]
  refine hZ _ (pp (Wk_cond_ndec rfl (fun hc1 => ?_) (fun hc1 => ?_)))
  · have hc1d := decide_eq_false hc1
    rw [if_neg hc1] at h
    refine Wk_seq (Wk_regionZ fun Z hZ => ?_)
    simp only [go_sem, seval, hc1d]
    refine hZ _ (pp (Wk_ret (pp ?_)))
    cases h
    simp only [go_sem, seval]
    exact ⟨_, rfl, RokI.h, PureI.h⟩
  have hc1d := decide_eq_true hc1
  rw [if_pos hc1] at h
  refine Wk_skip (pp (Wk_seq (Wk_seq (Wk_regionZ fun Z hZ => ?_))))
  simp only [go_sem, seval, hc1d]
  refine hZ _ (pp (Wk_block (Wk_real fun hreal3 => ?_)))
  have hl2 := hreal3.lenT 0 (by decide) (by simp only [go_sem, seval]; rfl)
  rw [List.length_map] at hl2
  refine Wk_range (fun (v3 : Nat) (b : Unit) => ⟨tab 27 (updT (updT (updT deadT 0 (.sl false none 5 none (a0.map Value.row))) 1 (.sl false none 5 none (a1.map Value.row))) 5 (.val (.int .i64 ((v3 : Nat) : Int)))), RZ⟩) () h ?_ ?_
  · refine weak_roots ?_ ?_ <;> repeat' first | exact xn | exact rn | refine xc ?_ ?_ | refine rc ?_ ?_ ?_ | rfl
  rintro v3 ⟨⟩ hi4 h -
  rcases (drop_cases a0 v3 hi4).symm with ⟨hi4', _, hd7⟩ | ⟨x6, hi4', hx5, hd7⟩
  · rw [hd7] at h
    simp only [ref32_SameValues_L1] at h
    refine Wk_seq (Wk_seq (Wk_regionZ fun Z hZ => ?_))
    simp only [go_sem, seval, hi4']
    refine hZ _ (pp ?_)
    try simp only [Int.ofNat_lt, hi4', if_true, if_false] at h
    refine Wk_cond_f rfl (Wk_exit (pp (Wk_seq (Wk_regionZ fun Z hZ => ?_))))
    simp only [go_sem, seval]
    refine hZ _ (pp (Wk_ret (pp ?_)))
    cases h
    simp only [go_sem, seval]
    exact ⟨_, rfl, RokI.h, PureI.h⟩
  rw [hd7] at h
  simp only [ref32_SameValues_L1] at h
  have hw6 := wrap_succ hi4' hl2
  refine Wk_seq (Wk_seq (Wk_regionZ fun Z hZ => ?_))
  simp only [go_sem, seval, hi4']
  refine hZ _ (pp ?_)
  try simp only [Int.ofNat_lt, hi4', if_true, if_false] at h
  refine Wk_cond_t rfl (Wk_skip (pp (Wk_seq (Wk_block (Wk_seq ?_)))))
  try rw [gx_nat hx5] at h
  obtain ⟨x1, hb8, hx9, h⟩ := gx_some h
  try simp only [Int.toNat_natCast] at hx9
  try simp only [Int.ofNat_lt, Int.natCast_nonneg, true_and] at hb8
  obtain ⟨r2, hr10, h⟩ := Option.bind_eq_some_iff.1 h
  refine Wk_regionD fun Z hZ => ?_
  simp only [go_sem, seval, hx5, hi4', hb8, hx9, hr10]
  repeat with_reducible refine and_bar (by kernel_rfl) ?_
  refine hZ _ (by kernel_rfl) (pp (Wk_cond_nbool rfl (fun hc11 => ?_) (fun hc11 => ?_)))
  · rw [if_neg (ne_true_of_eq_false hc11)] at h
    refine Wk_seq (Wk_regionZ fun Z hZ => ?_)
    simp only [go_sem, seval, hc11]
    refine hZ _ (pp (Wk_ret (pp ?_)))
    cases h
    simp only [go_sem, seval]
    exact ⟨_, rfl, RokI.h, PureI.h⟩
  rw [if_pos hc11] at h
  refine Wk_skip (pp (Wk_regionZ fun Z hZ => ?_))
  simp only [go_sem, seval, hw6, hc11]
  refine hZ _ (pp ?_)
  first | refine ⟨(), ?_, h⟩ | refine ⟨hi4', (), ?_, h⟩
  refine weak_roots ?_ ?_ <;> repeat' first | exact xn | exact rn | refine xc ?_ ?_ | refine rc ?_ ?_ ?_ | rfl
def fs_ref32_SameValues (N : Nat) : FnS := ⟨[], true, fn2 (decL 5 Value.dec) (decL 5 Value.dec) fun q0 q1 => (ref32_SameValues N q0 q1).map fun r => .val (.bool r), false⟩
attribute [go_sem] fs_ref32_SameValues
theorem fs_ref32_SameValues_ok (N : Nat) : FSOk Try.prog 59 (fs_ref32_SameValues N) := ok2 (fun q0 q1 r h => by
  obtain ⟨r', hr, rfl⟩ := Option.map_eq_some_iff.1 h
  exact w_ref32_SameValues N q0 q1 r' hr) (fun h => decL_le Value.dec_le h) (fun h => decL_le Value.dec_le h)


noncomputable def G_ref32_SameCall (N d f : Nat) : Option FnS := glist [(22, 59, fs_ref32_SameValues N)] d f
attribute [go_sem] G_ref32_SameCall
theorem w_ref32_SameCall (N : Nat) (a0 : ActorCall) (a1 : ActorCall) (r : Bool) (h : ref32_SameCall N a0 a1 = some r) : Con Try.prog 41 [] true [.agg (ActorCall.row a0), .agg (ActorCall.row a1)] (.val (.bool r)) := by
  refine fun_ok4 (G := (G_ref32_SameCall N)) Try.func41 rfl (by decide) (by kernel_rfl) (gc 22 (fs_ref32_SameValues_ok N) gn) [] mix (Nat.le_of_ble_eq_true rfl) ?_
  simp only [Try.f41]
  unfold ref32_SameCall at h
  refine Wk_seq (Wk_regionZ fun Z hZ => ?_)
  simp only [go_sem, seval]
  refine hZ _ (pp (Wk_seq (Wk_regionZ fun Z hZ => ?_)))
  simp only [go_sem, seval]
  refine sw (RX_guard_bool rfl) (fun hc1 => ?_) (fun hc1 => ?_)
  · rw [if_neg (ne_true_of_eq_false hc1)] at h
    simp only [go_sem, seval, hc1]
    refine hZ _ (pp (Wk_ret (pp ?_)))
    cases h
    simp only [go_sem, seval]
    exact ⟨_, rfl, RokI.h, PureI.h⟩
  rw [if_pos hc1] at h
  simp only [go_sem, seval, hc1]
  refine RX_guard_bool rfl (fun hc2 => ?_) (fun hc2 => ?_)
  · rw [if_pos hc2] at h
    obtain ⟨r1, hr3, h⟩ := Option.bind_eq_some_iff.1 h
    simp only [go_sem, seval, hc2, hr3]
    refine hZ _ (pp (Wk_ret (pp ?_)))
    cases h
    simp only [go_sem, seval]
    exact ⟨_, rfl, RokI.h, PureI.h⟩
  rw [if_neg (ne_true_of_eq_false hc2)] at h
  simp only [go_sem, seval, hc2]
  refine hZ _ (pp (Wk_ret (pp ?_)))
  cases h
  simp only [go_sem, seval]
  exact ⟨_, rfl, RokI.h, PureI.h⟩
def fs_ref32_SameCall (N : Nat) : FnS := ⟨[], true, fn2 ActorCall.decA ActorCall.decA fun q0 q1 => (ref32_SameCall N q0 q1).map fun r => .val (.bool r), false⟩
attribute [go_sem] fs_ref32_SameCall
theorem fs_ref32_SameCall_ok (N : Nat) : FSOk Try.prog 41 (fs_ref32_SameCall N) := ok2 (fun q0 q1 r h => by
  obtain ⟨r', hr, rfl⟩ := Option.map_eq_some_iff.1 h
  exact w_ref32_SameCall N q0 q1 r' hr) (ActorCall.decA_le) (ActorCall.decA_le)


noncomputable def G_ref32_SameCalls (N d f : Nat) : Option FnS := glist [(25, 41, fs_ref32_SameCall N)] d f
attribute [go_sem] G_ref32_SameCalls
theorem w_ref32_SameCalls (N : Nat) (a0 : (List ActorCall)) (a1 : (List ActorCall)) (r : Bool) (h : ref32_SameCalls N a0 a1 = some r) : Con Try.prog 20 [] true [.sl false none 4 none (a0.map ActorCall.row), .sl false none 4 none (a1.map ActorCall.row)] (.val (.bool r)) := by
  refine fun_ok4 (G := (G_ref32_SameCalls N)) Try.func20 rfl (by decide) (by kernel_rfl) (gc 25 (fs_ref32_SameCall_ok N) gn) [] mix (Nat.le_of_ble_eq_true rfl) ?_
  simp only [Try.f20]
  unfold ref32_SameCalls at h
  refine Wk_seq (Wk_regionZ fun Z hZ => ?_)
  simp only [go_sem, seval]
  refine hZ _ (pp (Wk_seq (Wk_seq (Wk_regionZ fun Z hZ => ?_))))
  simp only [go_sem, seval]
  refine hZ _ (pp (Wk_cond_ndec rfl (fun hc1 => ?_) (fun hc1 => ?_)))
  · have hc1d := decide_eq_false hc1
    rw [if_neg hc1] at h
    refine Wk_seq (Wk_regionZ fun Z hZ => ?_)
    simp only [go_sem, seval, hc1d]
    refine hZ _ (pp (Wk_ret (pp ?_)))
    cases h
    simp only [go_sem, seval]
    exact ⟨_, rfl, RokI.h, PureI.h⟩
  have hc1d := decide_eq_true hc1
  rw [if_pos hc1] at h
  refine Wk_skip (pp (Wk_seq (Wk_seq (Wk_regionZ fun Z hZ => ?_))))
  simp only [go_sem, seval, hc1d]
  refine hZ _ (pp (Wk_block (Wk_real fun hreal3 => ?_)))
  have hl2 := hreal3.lenT 0 (by decide) (by simp only [go_sem, seval]; rfl)
  rw [List.length_map] at hl2
  refine Wk_range (fun (v3 : Nat) (b : Unit) => ⟨tab 27 (updT (updT (updT deadT 0 (.sl false none 4 none (a0.map ActorCall.row))) 1 (.sl false none 4 none (a1.map ActorCall.row))) 5 (.val (.int .i64 ((v3 : Nat) : Int)))), RZ⟩) () h ?_ ?_
  · refine weak_roots ?_ ?_ <;> repeat' first | exact xn | exact rn | refine xc ?_ ?_ | refine rc ?_ ?_ ?_ | rfl
  rintro v3 ⟨⟩ hi4 h -
  rcases (drop_cases a0 v3 hi4).symm with ⟨hi4', _, hd7⟩ | ⟨x6, hi4', hx5, hd7⟩
  · rw [hd7] at h
    simp only [ref32_SameCalls_L1] at h
    refine Wk_seq (Wk_seq (Wk_regionZ fun Z hZ => ?_))
    simp only [go_sem, seval, hi4']
    refine hZ _ (pp ?_)
    try simp only [Int.ofNat_lt, hi4', if_true, if_false] at h
    refine Wk_cond_f rfl (Wk_exit (pp (Wk_seq (Wk_regionZ fun Z hZ => ?_))))
    simp only [go_sem, seval]
    refine hZ _ (pp (Wk_ret (pp ?_)))
    cases h
    simp only [go_sem, seval]
    exact ⟨_, rfl, RokI.h, PureI.h⟩
  rw [hd7] at h
  simp only [ref32_SameCalls_L1] at h
  have hw6 := wrap_succ hi4' hl2
  refine Wk_seq (Wk_seq (Wk_regionZ fun Z hZ => ?_))
  simp only [go_sem, seval, hi4']
  refine hZ _ (pp ?_)
  try simp only [Int.ofNat_lt, hi4', if_true, if_false] at h
  refine Wk_cond_t rfl (Wk_skip (pp (Wk_seq (Wk_block (Wk_seq ?_)))))
  try rw [gx_nat hx5] at h
  obtain ⟨x1, hb8, hx9, h⟩ := gx_some h
  try simp only [Int.toNat_natCast] at hx9
  try simp only [Int.ofNat_lt, Int.natCast_nonneg, true_and] at hb8
  obtain ⟨r2, hr10, h⟩ := Option.bind_eq_some_iff.1 h
  refine Wk_regionD fun Z hZ => ?_
  simp only [go_sem, seval, hx5, hi4', hb8, hx9, hr10]
  repeat with_reducible refine and_bar (by kernel_rfl) ?_
  refine hZ _ (by kernel_rfl) (pp (Wk_cond_nbool rfl (fun hc11 => ?_) (fun hc11 => ?_)))
  · rw [if_neg (ne_true_of_eq_false hc11)] at h
    refine Wk_seq (Wk_regionZ fun Z hZ => ?_)
    simp only [go_sem, seval, hc11]
    refine hZ _ (pp (Wk_ret (pp ?_)))
    cases h
    simp only [go_sem, seval]
    exact ⟨_, rfl, RokI.h, PureI.h⟩
  rw [if_pos hc11] at h
  refine Wk_skip (pp (Wk_regionZ fun Z hZ => ?_))
  simp only [go_sem, seval, hw6, hc11]
  refine hZ _ (pp ?_)
  first | refine ⟨(), ?_, h⟩ | refine ⟨hi4', (), ?_, h⟩
  refine weak_roots ?_ ?_ <;> repeat' first | exact xn | exact rn | refine xc ?_ ?_ | refine rc ?_ ?_ ?_ | rfl
def fs_ref32_SameCalls (N : Nat) : FnS := ⟨[], true, fn2 (decL 4 ActorCall.dec) (decL 4 ActorCall.dec) fun q0 q1 => (ref32_SameCalls N q0 q1).map fun r => .val (.bool r), false⟩
attribute [go_sem] fs_ref32_SameCalls
theorem fs_ref32_SameCalls_ok (N : Nat) : FSOk Try.prog 20 (fs_ref32_SameCalls N) := ok2 (fun q0 q1 r h => by
  obtain ⟨r', hr, rfl⟩ := Option.map_eq_some_iff.1 h
  exact w_ref32_SameCalls N q0 q1 r' hr) (fun h => decL_le ActorCall.dec_le h) (fun h => decL_le ActorCall.dec_le h)


noncomputable def G_law34_SessionResends (N d f : Nat) : Option FnS := glist [(16, 7, fs_law34_awake N), (22, 8, fs_session_New N), (49, 16, fs_law34_play N), (61, 19, fs_session_Resend N), (103, 18, fs_session_Acknowledged N), (115, 20, fs_ref32_SameCalls N), (123, 19, fs_session_Resend N)] d f
attribute [go_sem] G_law34_SessionResends
theorem w_law34_SessionResends (N : Nat) (a0 : (List actorgridlaw34_Act)) (a1 : Int) (r : Bool) (h : law34_SessionResends N a0 a1 = some r) : Con Try.prog 6 [] true [.sl false none 3 none (a0.map actorgridlaw34_Act.row), .val (.int .u8 a1)] (.val (.bool r)) := by
  refine fun_ok4 (G := (G_law34_SessionResends N)) Try.func6 rfl (by decide) (by kernel_rfl) (gc 16 (fs_law34_awake_ok N) (gc 22 (fs_session_New_ok N) (gc 49 (fs_law34_play_ok N) (gc 61 (fs_session_Resend_ok N) (gc 103 (fs_session_Acknowledged_ok N) (gc 115 (fs_ref32_SameCalls_ok N) (gc 123 (fs_session_Resend_ok N) gn))))))) [] mix (Nat.le_of_ble_eq_true rfl) ?_
  simp only [Try.f6]
  unfold law34_SessionResends at h
  refine Wk_seq (Wk_regionZ fun Z hZ => ?_)
  simp only [go_sem, seval]
  refine hZ _ (pp (Wk_seq (Wk_seq ?_)))
  obtain ⟨r1, hr1, h⟩ := Option.bind_eq_some_iff.1 h
  refine Wk_regionZ fun Z hZ => ?_
  simp only [go_sem, seval, hr1]
  refine hZ _ (pp (Wk_cond_nbool rfl (fun hc2 => ?_) (fun hc2 => ?_)))
  · rw [if_neg (ne_true_of_eq_false hc2)] at h
    refine Wk_seq (Wk_regionZ fun Z hZ => ?_)
    simp only [go_sem, seval, hc2]
    refine hZ _ (pp (Wk_ret (pp ?_)))
    cases h
    simp only [go_sem, seval]
    exact ⟨_, rfl, RokI.h, PureI.h⟩
  rw [if_pos hc2] at h
  refine Wk_skip (pp (Wk_seq (Wk_seq (Wk_regionZ fun Z hZ => ?_))))
  simp only [go_sem, seval, hc2]
  refine hZ _ (pp (Wk_cond_dec rfl (fun hc3 => ?_) (fun hc3 => ?_)))
  · have hc3d := decide_eq_true hc3
    rw [if_pos hc3] at h
    refine Wk_seq (Wk_regionZ fun Z hZ => ?_)
    simp only [go_sem, seval, hc3d]
    refine hZ _ (pp (Wk_ret (pp ?_)))
    cases h
    simp only [go_sem, seval]
    exact ⟨_, rfl, RokI.h, PureI.h⟩
  have hc3d := decide_eq_false hc3
  rw [if_neg hc3] at h
  refine Wk_skip (pp (Wk_seq ?_))
  obtain ⟨r2, hr4, h⟩ := Option.bind_eq_some_iff.1 h
  refine Wk_regionZ fun Z hZ => ?_
  simp only [go_sem, seval, hc3d, hr4]
  refine hZ _ (pp (Wk_seq (Wk_seq (Wk_regionZ fun Z hZ => ?_))))
  simp only [go_sem, seval]
  refine hZ _ (pp (Wk_cond_ndec rfl (fun hc5 => ?_) (fun hc5 => ?_)))
  · have hc5d := decide_eq_false hc5
    rw [if_neg hc5] at h
    refine Wk_seq (Wk_regionZ fun Z hZ => ?_)
    simp only [go_sem, seval, hc5d]
    refine hZ _ (pp (Wk_ret (pp ?_)))
    cases h
    simp only [go_sem, seval]
    exact ⟨_, rfl, RokI.h, PureI.h⟩
  have hc5d := decide_eq_true hc5
  rw [if_pos hc5] at h
  refine Wk_skip (pp (Wk_seq (Wk_regionZ fun Z hZ => ?_)))
  simp only [go_sem, seval, hc5d]
  refine hZ _ (pp (Wk_seq (Wk_seq (Wk_regionZ fun Z hZ => ?_))))
  simp only [go_sem, seval]
  refine hZ _ (pp (Wk_block (Wk_real fun hreal7 => ?_)))
  have hl6 := hreal7.lenT 0 (by decide) (by simp only [go_sem, seval]; rfl)
  rw [List.length_map] at hl6
  refine Wk_range (fun (v11 : Nat) (b : ByteArray × Int × List PendingSubmission × Int) => ⟨tab 151 (updT (updT (updT (updT (updT deadT 0 (.sl false none 3 none (a0.map actorgridlaw34_Act.row))) 1 (.val (.int .u8 a1))) 5 (.pref 5 [] 0 0)) 7 (.val (.int .i64 b.2.2.2))) 8 (.val (.int .i64 ((v11 : Nat) : Int)))), (upd RZ 5 (.sl true none 3 (some 1) [[.val (.string b.1), .val (.int .i64 b.2.1), .sl false none 6 none (b.2.2.1.map PendingSubmission.row)]]))⟩) (r2.1.Name, r2.1.Next, r2.1.Open, 0) h ?_ ?_
  · refine weak_roots ?_ ?_ <;> repeat' first | exact xn | exact rn | refine xc ?_ ?_ | refine rc ?_ ?_ ?_ | rfl
  rintro v11 ⟨s7, v8, l9, v10⟩ hi8 h -
  rcases (drop_cases a0 v11 hi8) with ⟨x14, hi8', hx9, hd11⟩ | ⟨hi8', _, hd11⟩
  · rw [hd11] at h
    simp only [law34_SessionResends_L1] at h
    have hw10 := wrap_succ hi8' hl6
    refine Wk_seq (Wk_seq (Wk_regionZ fun Z hZ => ?_))
    simp only [go_sem, seval, hi8']
    refine hZ _ (pp ?_)
    try simp only [Int.ofNat_lt, hi8', if_true, if_false] at h
    refine Wk_cond_t rfl (Wk_skip (pp (Wk_seq (Wk_block (Wk_seq ?_)))))
    try rw [gx_nat hx9] at h
    refine Wk_regionZ fun Z hZ => ?_
    simp only [go_sem, seval, hx9, hi8']
    refine hZ _ (pp ?_)
    try rw [gx_nat hx9] at h
    obtain ⟨r14, hr12, h⟩ := Option.bind_eq_some_iff.1 h
    refine Wk_regionH fun Y hY => ?_
    refine RX2_s rfl rfl fun Z hZ => ?_
    simp only [go_sem, seval]
    repeat with_reducible refine and_bar (by kernel_rfl) ?_
    refine hZ _ ?_
    refine RX2_s rfl rfl fun Z hZ => ?_
    simp only [go_sem, seval]
    refine hZ _ ?_
    refine RX2_s rfl rfl fun Z hZ => ?_
    simp only [go_sem, seval]
    refine hZ _ ?_
    refine RX2_s rfl rfl fun Z hZ => ?_
    simp only [go_sem, seval]
    refine hZ _ ?_
    refine RX2_s rfl rfl fun Z hZ => ?_
    simp only [go_sem, seval, hi8']
    refine hZ _ ?_
    refine RX2_s rfl rfl fun Z hZ => ?_
    simp only [go_sem, seval, hx9]
    refine hZ _ ?_
    refine RX2_s rfl rfl fun Z hZ => ?_
    simp only [go_sem, seval, hr12]
    refine hZ _ ?_
    refine RX2_s rfl rfl fun Z hZ => ?_
    simp only [go_sem, seval]
    refine hZ _ ?_
    refine RX2_s rfl rfl fun Z hZ => ?_
    simp only [go_sem, seval]
    refine hZ _ ?_
    refine RX2_s rfl rfl fun Z hZ => ?_
    simp only [go_sem, seval]
    refine hZ _ ?_
    refine RX2_s rfl rfl fun Z hZ => ?_
    simp only [go_sem, seval]
    refine hZ _ ?_
    refine RX2_w fun Z hZ => ?_
    simp only [go_sem, seval]
    refine hZ _ ?_
    refine RX2_end (by kernel_rfl) (hY _ (pp (Wk_regionZ fun Z hZ => ?_)))
    simp only [go_sem, seval, hw10]
    refine hZ _ (pp ?_)
    first | refine ⟨(r14.1.Name, r14.1.Next, r14.1.Open, IntKind.i64.wrap (v10 + (IntKind.i64.wrap (Int.tmod x14.After 6)))), ?_, h⟩ | refine ⟨hi8', (r14.1.Name, r14.1.Next, r14.1.Open, IntKind.i64.wrap (v10 + (IntKind.i64.wrap (Int.tmod x14.After 6)))), ?_, h⟩
    refine weak_roots ?_ ?_ <;> repeat' first | exact xn | exact rn | refine xc ?_ ?_ | refine rc ?_ ?_ ?_ | rfl
  rw [hd11] at h
  simp only [law34_SessionResends_L1] at h
  refine Wk_seq (Wk_seq (Wk_regionZ fun Z hZ => ?_))
  simp only [go_sem, seval, hi8']
  refine hZ _ (pp ?_)
  try simp only [Int.ofNat_lt, hi8', if_true, if_false] at h
  refine Wk_cond_f rfl (Wk_exit (pp ?_))
  unfold law34_SessionResends_J4 at h
  refine Wk_seq (Wk_regionZ fun Z hZ => ?_)
  simp only [go_sem, seval]
  refine hZ _ (pp (Wk_seq ?_))
  obtain ⟨r15, hr13, h⟩ := Option.bind_eq_some_iff.1 h
  refine Wk_regionZ fun Z hZ => ?_
  simp only [go_sem, seval, hr13]
  refine hZ _ (pp (Wk_seq (Wk_regionZ fun Z hZ => ?_)))
  simp only [go_sem, seval]
  refine hZ _ (pp (Wk_seq (Wk_seq (Wk_regionZ fun Z hZ => ?_))))
  simp only [go_sem, seval]
  refine hZ _ (pp (Wk_block (Wk_real fun hreal15 => ?_)))
  have hl14 := hreal15.cell 5 2 (by simp only [go_sem, seval]; rfl) rfl
  rw [List.length_map] at hl14
  refine Wk_range (fun (v25 : Nat) (b : Int) => ⟨tab 151 (updT (updT (updT (updT (updT (updT deadT 5 (.pref 5 [] 0 0)) 7 (.val (.int .i64 (IntKind.i64.wrap (v10 + (IntKind.i64.wrap (Int.tmod a1 9))))))) 9 (.pref 9 [] 0 0)) 10 (.sl false none 5 none (r15.2.map Submission.row))) 11 (.val (.int .i64 b))) 12 (.val (.int .i64 ((v25 : Nat) : Int)))), (upd (upd RZ 5 (.sl true none 3 (some 1) [[.val (.string s7), .val (.int .i64 v8), .sl false none 6 none (l9.map PendingSubmission.row)]])) 9 (.sl true none 3 (some 1) [Session.row r15.1]))⟩) 0 h ?_ ?_
  · refine weak_roots ?_ ?_ <;> repeat' first | exact xn | exact rn | refine xc ?_ ?_ | refine rc ?_ ?_ ?_ | rfl
  rintro v25 v24 hi16 h -
  rcases (drop_cases l9 v25 hi16).symm with ⟨hi16', _, hd19⟩ | ⟨x28, hi16', hx17, hd19⟩
  · rw [hd19] at h
    simp only [law34_SessionResends_L2] at h
    refine Wk_seq (Wk_seq (Wk_regionZ fun Z hZ => ?_))
    simp only [go_sem, seval, hi16']
    refine hZ _ (pp ?_)
    try simp only [Int.ofNat_lt, hi8', hi16', if_true, if_false] at h
    refine Wk_cond_f rfl (Wk_exit (pp ?_))
    unfold law34_SessionResends_J3 at h
    refine Wk_seq ?_
    obtain ⟨r43, hr30, h⟩ := Option.bind_eq_some_iff.1 h
    refine Wk_regionZ fun Z hZ => ?_
    simp only [go_sem, seval, hr30]
    refine hZ _ (pp (Wk_seq (Wk_regionZ fun Z hZ => ?_)))
    simp only [go_sem, seval]
    refine sw (RX_guard_dec rfl) (fun hc31 => ?_) (fun hc31 => ?_)
    · have hc31d := decide_eq_false hc31
      rw [if_neg hc31] at h
      simp only [go_sem, seval, hc31d]
      refine hZ _ (pp (Wk_ret (pp ?_)))
      cases h
      simp only [go_sem, seval]
      exact ⟨_, rfl, RokI.h, PureI.h⟩
    have hc31d := decide_eq_true hc31
    rw [if_pos hc31] at h
    simp only [go_sem, seval, hc31d]
    refine sw (RX_guard_dec rfl) (fun hc32 => ?_) (fun hc32 => ?_)
    · have hc32d := decide_eq_false hc32
      rw [if_neg hc32] at h
      simp only [go_sem, seval, hc32d]
      refine hZ _ (pp (Wk_ret (pp ?_)))
      cases h
      simp only [go_sem, seval]
      exact ⟨_, rfl, RokI.h, PureI.h⟩
    have hc32d := decide_eq_true hc32
    rw [if_pos hc32] at h
    simp only [go_sem, seval, hc32d]
    refine RX_guard_dec rfl (fun hc33 => ?_) (fun hc33 => ?_)
    · have hc33d := decide_eq_true hc33
      rw [if_pos hc33] at h
      simp only [go_sem, seval, hc33d]
      refine hZ _ (pp (Wk_ret (pp ?_)))
      cases h
      simp only [go_sem, seval]
      exact ⟨_, rfl, RokI.h, PureI.h⟩
    have hc33d := decide_eq_false hc33
    rw [if_neg hc33] at h
    simp only [go_sem, seval, hc33d]
    refine hZ _ (pp (Wk_ret (pp ?_)))
    cases h
    simp only [go_sem, seval]
    exact ⟨_, rfl, RokI.h, PureI.h⟩
  rw [hd19] at h
  simp only [law34_SessionResends_L2] at h
  have hw18 := wrap_succ hi16' hl14
  refine Wk_seq (Wk_seq (Wk_regionZ fun Z hZ => ?_))
  simp only [go_sem, seval, hi16']
  refine hZ _ (pp ?_)
  try simp only [Int.ofNat_lt, hi8', hi16', if_true, if_false] at h
  refine Wk_cond_t rfl (Wk_skip (pp (Wk_seq (Wk_block (Wk_seq ?_)))))
  try rw [gx_nat hx17] at h
  refine Wk_regionZ fun Z hZ => ?_
  simp only [go_sem, seval, hx17, hi16']
  refine hZ _ (pp (Wk_seq (Wk_seq (Wk_regionZ fun Z hZ => ?_))))
  simp only [go_sem, seval]
  refine hZ _ (pp (Wk_cond_dec rfl (fun hc20 => ?_) (fun hc20 => ?_)))
  · have hc20d := decide_eq_true hc20
    rw [if_pos hc20] at h
    refine Wk_exit (pp (Wk_regionZ fun Z hZ => ?_))
    simp only [go_sem, seval, hw18, hc20d]
    refine hZ _ (pp ?_)
    first | refine ⟨v24, ?_, h⟩ | refine ⟨hi16', v24, ?_, h⟩
    refine weak_roots ?_ ?_ <;> repeat' first | exact xn | exact rn | refine xc ?_ ?_ | refine rc ?_ ?_ ?_ | rfl
  have hc20d := decide_eq_false hc20
  rw [if_neg hc20] at h
  refine Wk_skip (pp (Wk_seq ?_))
  apply Wk_join1 (fun (c39 : Bool) => ⟨tab 151 (updT (updT (updT (updT (updT (updT (updT deadT 5 (.pref 5 [] 0 0)) 7 (.val (.int .i64 (IntKind.i64.wrap (v10 + (IntKind.i64.wrap (Int.tmod a1 9))))))) 9 (.pref 9 [] 0 0)) 10 (.sl false none 5 none (r15.2.map Submission.row))) 11 (.val (.int .i64 v24))) 12 (.val (.int .i64 ((v25 : Nat) : Int)))) 117 (.val (.bool c39))), (upd (upd RZ 5 (.sl true none 3 (some 1) [[.val (.string s7), .val (.int .i64 v8), .sl false none 6 none (l9.map PendingSubmission.row)]])) 9 (.sl true none 3 (some 1) [Session.row r15.1]))⟩)
  · intro hJ21
    refine Wk_regionD fun Z hZ => ?_
    simp only [go_sem, seval, hc20d]
    repeat with_reducible refine and_bar (by kernel_rfl) ?_
    refine RX_guard_dec rfl (fun hc22 => ?_) (fun hc22 => ?_)
    · have hc22d := decide_eq_true hc22
      rw [if_pos hc22] at h
      simp only [go_sem, seval, hc22d]
      refine hZ _ (by kernel_rfl) (pp (hJ21 _ true ?_ h))
      refine weak_roots ?_ ?_ <;> repeat' first | exact xn | exact rn | refine xc ?_ ?_ | refine rc ?_ ?_ ?_ | rfl
    have hc22d := decide_eq_false hc22
    rw [if_neg hc22] at h
    obtain ⟨x40, hb23, hx24, h⟩ := gx_some h
    simp only [go_sem, seval, hc22d, hb23, hx24]
    refine RX_guard_ndec rfl (fun hc25 => ?_) (fun hc25 => ?_)
    · have hc25d := decide_eq_false hc25
      rw [if_neg hc25] at h
      simp only [go_sem, seval, hc25d]
      refine hZ _ (by kernel_rfl) (pp (hJ21 _ true ?_ h))
      refine weak_roots ?_ ?_ <;> repeat' first | exact xn | exact rn | refine xc ?_ ?_ | refine rc ?_ ?_ ?_ | rfl
    have hc25d := decide_eq_true hc25
    rw [if_pos hc25] at h
    obtain ⟨r41, hr26, h⟩ := Option.bind_eq_some_iff.1 h
    simp only [go_sem, seval, hb23, hx24, hc25d, hr26]
    repeat with_reducible refine and_bar (by kernel_rfl) ?_
    refine RX_guard_ndec rfl (fun hc27 => ?_) (fun hc27 => ?_)
    · have hc27d := decide_eq_false hc27
      rw [if_neg hc27] at h
      simp only [go_sem, seval, hc27d]
      refine hZ _ (by kernel_rfl) (pp (hJ21 _ true ?_ h))
      refine weak_roots ?_ ?_ <;> repeat' first | exact xn | exact rn | refine xc ?_ ?_ | refine rc ?_ ?_ ?_ | rfl
    have hc27d := decide_eq_true hc27
    rw [if_pos hc27] at h
    obtain ⟨r42, hr28, h⟩ := Option.bind_eq_some_iff.1 h
    simp only [go_sem, seval, hb23, hx24, hc27d, hr28]
    repeat with_reducible refine and_bar (by kernel_rfl) ?_
    refine hZ _ (by kernel_rfl) (pp (hJ21 _ (!r42) ?_ h))
    refine weak_roots ?_ ?_ <;> repeat' first | exact xn | exact rn | refine xc ?_ ?_ | refine rc ?_ ?_ ?_ | rfl
  intro c39 h
  unfold law34_SessionResends_J1 at h
  refine Wk_cond_bool rfl (fun hc29 => ?_) (fun hc29 => ?_)
  · rw [if_pos hc29] at h
    refine Wk_seq (Wk_regionZ fun Z hZ => ?_)
    simp only [go_sem, seval, hc29]
    refine hZ _ (pp (Wk_ret (pp ?_)))
    cases h
    simp only [go_sem, seval]
    exact ⟨_, rfl, RokI.h, PureI.h⟩
  rw [if_neg (ne_true_of_eq_false hc29)] at h
  refine Wk_skip (pp ?_)
  unfold law34_SessionResends_J2 at h
  refine Wk_regionZ fun Z hZ => ?_
  simp only [go_sem, seval, hc29]
  refine hZ _ (pp (Wk_regionZ fun Z hZ => ?_))
  simp only [go_sem, seval, hw18]
  refine hZ _ (pp ?_)
  first | refine ⟨(IntKind.i64.wrap (v24 + 1)), ?_, h⟩ | refine ⟨hi16', (IntKind.i64.wrap (v24 + 1)), ?_, h⟩
  refine weak_roots ?_ ?_ <;> repeat' first | exact xn | exact rn | refine xc ?_ ?_ | refine rc ?_ ?_ ?_ | rfl
def fs_law34_SessionResends (N : Nat) : FnS := ⟨[], true, fn2 (decL 3 actorgridlaw34_Act.dec) (decI .u8) fun q0 q1 => (law34_SessionResends N q0 q1).map fun r => .val (.bool r), false⟩
attribute [go_sem] fs_law34_SessionResends
theorem fs_law34_SessionResends_ok (N : Nat) : FSOk Try.prog 6 (fs_law34_SessionResends N) := ok2 (fun q0 q1 r h => by
  obtain ⟨r', hr, rfl⟩ := Option.map_eq_some_iff.1 h
  exact w_law34_SessionResends N q0 q1 r' hr) (fun h => decL_le actorgridlaw34_Act.dec_le h) (decI_le)

end Go.Proofs.Ythgcdhclommkcaa
