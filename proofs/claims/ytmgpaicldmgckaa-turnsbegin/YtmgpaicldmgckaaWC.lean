import Derived.Test.YtmgpaicldmgckaaB
import Derived.Test.YtmgpaicldmgckaaWB
/- Each Go function computes its model: proofs laid by a program of ours. -/
set_option synthInstance.maxHeartbeats 2000000
set_option synthInstance.maxSize 4000
set_option linter.unusedSimpArgs false
set_option linter.unusedVariables false
set_option maxRecDepth 100000
namespace Go.Proofs.Ytmgpaicldmgckaa
open Go Go.Proofs Go.Abs
noncomputable def G_ref24_turn (N d f : Nat) : Option FnS := glist [(15, 18, fs_ref24_ValidRequest N), (47, 24, fs_ref24_Descends N), (59, 53, fs_ref24_running N), (80, 45, fs_ref24_SameReply N), (85, 18, fs_ref24_ValidRequest N), (129, 48, fs_ref1_SameInts N), (144, 70, fs_ref24_SameRefs N), (153, 45, fs_ref24_SameReply N), (159, 20, fs_ref24_ValidReply N), (172, 22, fs_ref24_SameID N)] d f
attribute [go_sem] G_ref24_turn
set_option maxHeartbeats 40000000 in
theorem w_ref24_turn (N : Nat) (a0 : Actor) (a1 : Int) (r : Bool) (h : ref24_turn N a0 a1 = some r) : Con Try.prog 58 [] true [.agg (Actor.row a0), .val (.int .i64 a1)] (.val (.bool r)) := by
  refine fun_ok4 (G := (G_ref24_turn N)) Try.func58 rfl (by decide) (by kernel_rfl) (gc 15 (fs_ref24_ValidRequest_ok N) (gc 47 (fs_ref24_Descends_ok N) (gc 59 (fs_ref24_running_ok N) (gc 80 (fs_ref24_SameReply_ok N) (gc 85 (fs_ref24_ValidRequest_ok N) (gc 129 (fs_ref1_SameInts_ok N) (gc 144 (fs_ref24_SameRefs_ok N) (gc 153 (fs_ref24_SameReply_ok N) (gc 159 (fs_ref24_ValidReply_ok N) (gc 172 (fs_ref24_SameID_ok N) gn)))))))))) [] mix (Nat.le_of_ble_eq_true rfl) ?_
  simp only [Try.f58]
  unfold ref24_turn at h
  refine Wk_seq (Wk_regionZ fun Z hZ => ?_)
  simp only [go_sem, seval]
  refine hZ _ (pp ?_)
  refine Wk_seq ?_
  obtain ⟨x1, hb1, hx2, h⟩ := gx_some h
  refine Wk_regionZ fun Z hZ => ?_
  simp only [go_sem, seval, hb1, hx2]
  refine hZ _ (pp ?_)
  refine Wk_seq ?_
  apply Wk_join1 (fun (c6 : Bool) => ⟨tab 174 (updT (updT (updT (updT deadT 1 (.val (.int .i64 a1))) 2 (.pref 2 [] 0 0)) 5 (.pref 5 [] 0 0)) 34 (.val (.bool c6))), (upd (upd RZ 2 (.sl true none 4 (some 1) [Actor.row a0])) 5 (.sl true none 30 (some 1) [Turn.row x1]))⟩)
  · intro hJ3
    obtain ⟨r7, hr4, h⟩ := Option.bind_eq_some_iff.1 h
    refine Wk_regionZ fun Z hZ => ?_
    simp only [go_sem, seval, hb1, hx2, hr4]
    refine RX_guard_nbool rfl (fun hc5 => ?_) (fun hc5 => ?_)
    · rw [if_neg (ne_true_of_eq_false hc5)] at h
      simp only [go_sem, seval, hb1, hx2, hr4, hc5]
      refine hZ _ (pp ?_)
      refine hJ3 _ true ?_ h
      refine weak_roots ?_ ?_ <;> repeat' first | exact xn | exact rn | refine xc ?_ ?_ | refine rc ?_ ?_ ?_ | rfl | simp only [go_sem, seval, Bool.or_self, List.length_set, Int.natCast_zero, Int.cast_ofNat_Int, hb1, hx2, hr4, hc5]
    rw [if_pos hc5] at h
    simp only [go_sem, seval, hb1, hx2, hr4, hc5]
    refine RX_guard_nbool rfl (fun hc6 => ?_) (fun hc6 => ?_)
    · rw [if_neg (ne_true_of_eq_false hc6)] at h
      simp only [go_sem, seval, hb1, hx2, hr4, hc5, hc6]
      refine hZ _ (pp ?_)
      refine hJ3 _ true ?_ h
      refine weak_roots ?_ ?_ <;> repeat' first | exact xn | exact rn | refine xc ?_ ?_ | refine rc ?_ ?_ ?_ | rfl | simp only [go_sem, seval, Bool.or_self, List.length_set, Int.natCast_zero, Int.cast_ofNat_Int, hb1, hx2, hr4, hc5, hc6]
    rw [if_pos hc6] at h
    simp only [go_sem, seval, hb1, hx2, hr4, hc5, hc6]
    refine RX_guard_dec rfl (fun hc7 => ?_) (fun hc7 => ?_)
    · have hc7d := decide_eq_true hc7
      first | rw [if_pos hc7] at h | rw [if_pos hc7d] at h
      simp only [go_sem, seval, hb1, hx2, hr4, hc5, hc6, hc7d]
      refine hZ _ (pp ?_)
      refine hJ3 _ true ?_ h
      refine weak_roots ?_ ?_ <;> repeat' first | exact xn | exact rn | refine xc ?_ ?_ | refine rc ?_ ?_ ?_ | rfl | simp only [go_sem, seval, Bool.or_self, List.length_set, Int.natCast_zero, Int.cast_ofNat_Int, hb1, hx2, hr4, hc5, hc6, hc7d]
    have hc7d := decide_eq_false hc7
    first | rw [if_neg hc7] at h | rw [if_neg (ne_true_of_eq_false hc7d)] at h
    simp only [go_sem, seval, hb1, hx2, hr4, hc5, hc6, hc7d]
    refine hZ _ (pp ?_)
    refine hJ3 _ (decide (1099511627776 < x1.Calls)) ?_ h
    refine weak_roots ?_ ?_ <;> repeat' first | exact xn | exact rn | refine xc ?_ ?_ | refine rc ?_ ?_ ?_ | rfl | simp only [go_sem, seval, Bool.or_self, List.length_set, Int.natCast_zero, Int.cast_ofNat_Int, hb1, hx2, hr4, hc5, hc6, hc7d]
  intro c6 h
  unfold ref24_turn_J1 at h
  refine Wk_cond_bool rfl (fun hc8 => ?_) (fun hc8 => ?_)
  · rw [if_pos hc8] at h
    refine Wk_seq (Wk_regionZ fun Z hZ => ?_)
    simp only [go_sem, seval, hb1, hx2, hc8]
    refine hZ _ (pp ?_)
    refine Wk_ret (pp ?_)
    cases h
    simp only [go_sem, seval, hb1, hx2, hc8]
    exact ⟨_, rfl, RokI.h, PureI.h⟩
  rw [if_neg (ne_true_of_eq_false hc8)] at h
  refine Wk_skip (pp ?_)
  unfold ref24_turn_J6 at h
  apply Wk_join0 ⟨tab 174 (updT (updT (updT deadT 1 (.val (.int .i64 a1))) 2 (.pref 2 [] 0 0)) 5 (.pref 5 [] 0 0)), (upd (upd RZ 2 (.sl true none 4 (some 1) [Actor.row a0])) 5 (.sl true none 30 (some 1) [Turn.row x1]))⟩
  · intro hJ9
    refine Wk_seq (Wk_regionZ fun Z hZ => ?_)
    simp only [go_sem, seval, hb1, hx2, hc8]
    refine hZ _ (pp ?_)
    refine sw (Wk_cond_dec rfl) (fun hc10 => ?_) (fun hc10 => ?_)
    · have hc10d := decide_eq_false hc10
      first | rw [if_neg hc10] at h | rw [if_neg (ne_true_of_eq_false hc10d)] at h
      refine Wk_skip (pp ?_)
      refine hJ9 _  ?_ h
      refine weak_roots ?_ ?_ <;> repeat' first | exact xn | exact rn | refine xc ?_ ?_ | refine rc ?_ ?_ ?_ | rfl | simp only [go_sem, seval, Bool.or_self, List.length_set, Int.natCast_zero, Int.cast_ofNat_Int, hb1, hx2, hc8, hc10d]
    have hc10d := decide_eq_true hc10
    first | rw [if_pos hc10] at h | rw [if_pos hc10d] at h
    refine Wk_seq ?_
    obtain ⟨x12, hb11, hx12, h⟩ := gx_some h
    refine Wk_regionZ fun Z hZ => ?_
    simp only [go_sem, seval, hb1, hx2, hc8, hc10d, hb11, hx12]
    refine hZ _ (pp ?_)
    apply Wk_join1 (fun (c14 : Bool) => ⟨tab 174 (updT (updT (updT (updT deadT 1 (.val (.int .i64 a1))) 2 (.pref 2 [] 0 0)) 5 (.pref 5 [] 0 0)) 57 (.val (.bool c14))), (upd (upd RZ 2 (.sl true none 4 (some 1) [Actor.row a0])) 5 (.sl true none 30 (some 1) [Turn.row x1]))⟩)
    · intro hJ13
      obtain ⟨r15, hr14, h⟩ := Option.bind_eq_some_iff.1 h
      refine Wk_regionZ fun Z hZ => ?_
      simp only [go_sem, seval, hb1, hx2, hc8, hc10d, hb11, hx12, hr14]
      refine RX_guard_nbool rfl (fun hc15 => ?_) (fun hc15 => ?_)
      · rw [if_neg (ne_true_of_eq_false hc15)] at h
        simp only [go_sem, seval, hb1, hx2, hc8, hc10d, hb11, hx12, hr14, hc15]
        refine hZ _ (pp ?_)
        refine hJ13 _ true ?_ h
        refine weak_roots ?_ ?_ <;> repeat' first | exact xn | exact rn | refine xc ?_ ?_ | refine rc ?_ ?_ ?_ | rfl | simp only [go_sem, seval, Bool.or_self, List.length_set, Int.natCast_zero, Int.cast_ofNat_Int, hb1, hx2, hc8, hc10d, hb11, hx12, hr14, hc15]
      rw [if_pos hc15] at h
      simp only [go_sem, seval, hb1, hx2, hc8, hc10d, hb11, hx12, hr14, hc15]
      refine RX_guard_nbool rfl (fun hc16 => ?_) (fun hc16 => ?_)
      · rw [if_neg (ne_true_of_eq_false hc16)] at h
        simp only [go_sem, seval, hb1, hx2, hc8, hc10d, hb11, hx12, hr14, hc15, hc16]
        refine hZ _ (pp ?_)
        refine hJ13 _ true ?_ h
        refine weak_roots ?_ ?_ <;> repeat' first | exact xn | exact rn | refine xc ?_ ?_ | refine rc ?_ ?_ ?_ | rfl | simp only [go_sem, seval, Bool.or_self, List.length_set, Int.natCast_zero, Int.cast_ofNat_Int, hb1, hx2, hc8, hc10d, hb11, hx12, hr14, hc15, hc16]
      rw [if_pos hc16] at h
      simp only [go_sem, seval, hb1, hx2, hc8, hc10d, hb11, hx12, hr14, hc15, hc16]
      refine hZ _ (pp ?_)
      refine hJ13 _ x12.Done ?_ h
      refine weak_roots ?_ ?_ <;> repeat' first | exact xn | exact rn | refine xc ?_ ?_ | refine rc ?_ ?_ ?_ | rfl | simp only [go_sem, seval, Bool.or_self, List.length_set, Int.natCast_zero, Int.cast_ofNat_Int, hb1, hx2, hc8, hc10d, hb11, hx12, hr14, hc15, hc16]
    intro c14 h
    unfold ref24_turn_J2 at h
    refine Wk_cond_bool rfl (fun hc17 => ?_) (fun hc17 => ?_)
    · rw [if_pos hc17] at h
      refine Wk_seq (Wk_regionZ fun Z hZ => ?_)
      simp only [go_sem, seval, hb1, hx2, hc8, hc10d, hb11, hx12, hc17]
      refine hZ _ (pp ?_)
      refine Wk_ret (pp ?_)
      cases h
      simp only [go_sem, seval, hb1, hx2, hc8, hc10d, hb11, hx12, hc17]
      exact ⟨_, rfl, RokI.h, PureI.h⟩
    rw [if_neg (ne_true_of_eq_false hc17)] at h
    refine Wk_skip (pp ?_)
    refine hJ9 _  ?_ h
    refine weak_roots ?_ ?_ <;> repeat' first | exact xn | exact rn | refine xc ?_ ?_ | refine rc ?_ ?_ ?_ | rfl | simp only [go_sem, seval, Bool.or_self, List.length_set, Int.natCast_zero, Int.cast_ofNat_Int, hb1, hx2, hc8, hc10d, hb11, hx12, hc17]
  intro  h
  unfold ref24_turn_J5 at h
  refine Wk_seq (Wk_seq ?_)
  obtain ⟨r16, hr18, h⟩ := Option.bind_eq_some_iff.1 h
  refine Wk_regionZ fun Z hZ => ?_
  simp only [go_sem, seval, hb1, hx2, hc8, hr18]
  refine hZ _ (pp ?_)
  refine Wk_cond_bool rfl (fun hc19 => ?_) (fun hc19 => ?_)
  · rw [if_pos hc19] at h
    refine Wk_seq (Wk_regionZ fun Z hZ => ?_)
    simp only [go_sem, seval, hb1, hx2, hc8, hr18, hc19]
    refine sw (RX_guard_dec rfl) (fun hc20 => ?_) (fun hc20 => ?_)
    · have hc20d := decide_eq_false hc20
      first | rw [if_neg hc20] at h | rw [if_neg (ne_true_of_eq_false hc20d)] at h
      simp only [go_sem, seval, hb1, hx2, hc8, hr18, hc19, hc20d]
      refine hZ _ (pp ?_)
      refine Wk_ret (pp ?_)
      cases h
      simp only [go_sem, seval, hb1, hx2, hc8, hr18, hc19, hc20d]
      exact ⟨_, rfl, RokI.h, PureI.h⟩
    have hc20d := decide_eq_true hc20
    first | rw [if_pos hc20] at h | rw [if_pos hc20d] at h
    simp only [go_sem, seval, hb1, hx2, hc8, hr18, hc19, hc20d]
    refine sw (RX_guard_nbool rfl) (fun hc21 => ?_) (fun hc21 => ?_)
    · rw [if_pos hc21] at h
      simp only [go_sem, seval, hb1, hx2, hc8, hr18, hc19, hc20d, hc21]
      refine hZ _ (pp ?_)
      refine Wk_ret (pp ?_)
      cases h
      simp only [go_sem, seval, hb1, hx2, hc8, hr18, hc19, hc20d, hc21]
      exact ⟨_, rfl, RokI.h, PureI.h⟩
    rw [if_neg (ne_true_of_eq_false hc21)] at h
    simp only [go_sem, seval, hb1, hx2, hc8, hr18, hc19, hc20d, hc21]
    refine RX_guard_nbool rfl (fun hc22 => ?_) (fun hc22 => ?_)
    · rw [if_neg (ne_true_of_eq_false hc22)] at h
      obtain ⟨r17, hr23, h⟩ := Option.bind_eq_some_iff.1 h
      simp only [go_sem, seval, hb1, hx2, hc8, hr18, hc19, hc20d, hc21, hc22, hr23]
      refine hZ _ (pp ?_)
      refine Wk_ret (pp ?_)
      cases h
      simp only [go_sem, seval, hb1, hx2, hc8, hr18, hc19, hc20d, hc21, hc22, hr23]
      exact ⟨_, rfl, RokI.h, PureI.h⟩
    rw [if_pos hc22] at h
    simp only [go_sem, seval, hb1, hx2, hc8, hr18, hc19, hc20d, hc21, hc22]
    refine hZ _ (pp ?_)
    refine Wk_ret (pp ?_)
    cases h
    simp only [go_sem, seval, hb1, hx2, hc8, hr18, hc19, hc20d, hc21, hc22]
    exact ⟨_, rfl, RokI.h, PureI.h⟩
  rw [if_neg (ne_true_of_eq_false hc19)] at h
  refine Wk_skip (pp ?_)
  refine Wk_seq (Wk_regionZ fun Z hZ => ?_)
  simp only [go_sem, seval, hb1, hx2, hc8, hr18, hc19]
  refine hZ _ (pp ?_)
  refine Wk_seq ?_
  apply Wk_join1 (fun (c30 : Bool) => ⟨tab 174 (updT (updT (updT deadT 5 (.pref 5 [] 0 0)) 7 (.pref 7 [] 0 0)) 146 (.val (.bool c30))), (upd (upd RZ 5 (.sl true none 30 (some 1) [Turn.row x1])) 7 (.sl true none 9 (some 1) [Request.row x1.Call]))⟩)
  · intro hJ24
    obtain ⟨r31, hr25, h⟩ := Option.bind_eq_some_iff.1 h
    refine Wk_regionH fun Y hY => ?_
    refine RX2_s rfl rfl fun Z hZ => ?_
    simp only [go_sem, seval, hb1, hx2, hc8, hr18, hc19, hr25]
    repeat with_reducible refine and_bar (by kernel_rfl) ?_
    refine hZ _ ?_
    refine RX2_s rfl rfl fun Z hZ => ?_
    simp only [go_sem, seval, hb1, hx2, hc8, hr18, hc19, hr25]
    repeat with_reducible refine and_bar (by kernel_rfl) ?_
    refine hZ _ ?_
    refine RX2_s rfl rfl fun Z hZ => ?_
    simp only [go_sem, seval, hb1, hx2, hc8, hr18, hc19, hr25]
    repeat with_reducible refine and_bar (by kernel_rfl) ?_
    refine hZ _ ?_
    refine RX2_s rfl rfl fun Z hZ => ?_
    simp only [go_sem, seval, hb1, hx2, hc8, hr18, hc19, hr25]
    repeat with_reducible refine and_bar (by kernel_rfl) ?_
    refine hZ _ ?_
    refine RX2_guard_nbool rfl (fun hc26 => ?_) (fun hc26 => ?_)
    · rw [if_neg (ne_true_of_eq_false hc26)] at h
      refine RX2_norm fun Z hZ => ?_
      simp only [hc26, Bool.not_true, Bool.not_false]
      refine hZ _ ?_
      refine RX2_g rfl fun Z hZ => ?_
      simp only [go_sem, seval, hb1, hx2, hc8, hr18, hc19, hr25, hc26]
      repeat with_reducible refine and_bar (by kernel_rfl) ?_
      refine hZ _ ?_
      refine RX2_g rfl fun Z hZ => ?_
      simp only [go_sem, seval, hb1, hx2, hc8, hr18, hc19, hr25, hc26]
      repeat with_reducible refine and_bar (by kernel_rfl) ?_
      refine hZ _ ?_
      refine RX2_g rfl fun Z hZ => ?_
      simp only [go_sem, seval, hb1, hx2, hc8, hr18, hc19, hr25, hc26]
      repeat with_reducible refine and_bar (by kernel_rfl) ?_
      refine hZ _ ?_
      refine RX2_s rfl rfl fun Z hZ => ?_
      simp only [go_sem, seval, hb1, hx2, hc8, hr18, hc19, hr25, hc26]
      repeat with_reducible refine and_bar (by kernel_rfl) ?_
      refine hZ _ ?_
      refine RX2_s rfl rfl fun Z hZ => ?_
      simp only [go_sem, seval, hb1, hx2, hc8, hr18, hc19, hr25, hc26]
      repeat with_reducible refine and_bar (by kernel_rfl) ?_
      refine hZ _ ?_
      refine RX2_g rfl fun Z hZ => ?_
      simp only [go_sem, seval, hb1, hx2, hc8, hr18, hc19, hr25, hc26]
      repeat with_reducible refine and_bar (by kernel_rfl) ?_
      refine hZ _ ?_
      refine RX2_g rfl fun Z hZ => ?_
      simp only [go_sem, seval, hb1, hx2, hc8, hr18, hc19, hr25, hc26]
      repeat with_reducible refine and_bar (by kernel_rfl) ?_
      refine hZ _ ?_
      refine RX2_g rfl fun Z hZ => ?_
      simp only [go_sem, seval, hb1, hx2, hc8, hr18, hc19, hr25, hc26]
      repeat with_reducible refine and_bar (by kernel_rfl) ?_
      refine hZ _ ?_
      refine RX2_g rfl fun Z hZ => ?_
      simp only [go_sem, seval, hb1, hx2, hc8, hr18, hc19, hr25, hc26]
      repeat with_reducible refine and_bar (by kernel_rfl) ?_
      refine hZ _ ?_
      refine RX2_g rfl fun Z hZ => ?_
      simp only [go_sem, seval, hb1, hx2, hc8, hr18, hc19, hr25, hc26]
      repeat with_reducible refine and_bar (by kernel_rfl) ?_
      refine hZ _ ?_
      refine RX2_g rfl fun Z hZ => ?_
      simp only [go_sem, seval, hb1, hx2, hc8, hr18, hc19, hr25, hc26]
      repeat with_reducible refine and_bar (by kernel_rfl) ?_
      refine hZ _ ?_
      refine RX2_s rfl rfl fun Z hZ => ?_
      simp only [go_sem, seval, hb1, hx2, hc8, hr18, hc19, hr25, hc26]
      repeat with_reducible refine and_bar (by kernel_rfl) ?_
      refine hZ _ ?_
      refine RX2_s rfl rfl fun Z hZ => ?_
      simp only [go_sem, seval, hb1, hx2, hc8, hr18, hc19, hr25, hc26]
      repeat with_reducible refine and_bar (by kernel_rfl) ?_
      refine hZ _ ?_
      refine RX2_g rfl fun Z hZ => ?_
      simp only [go_sem, seval, hb1, hx2, hc8, hr18, hc19, hr25, hc26]
      repeat with_reducible refine and_bar (by kernel_rfl) ?_
      refine hZ _ ?_
      refine RX2_g rfl fun Z hZ => ?_
      simp only [go_sem, seval, hb1, hx2, hc8, hr18, hc19, hr25, hc26]
      repeat with_reducible refine and_bar (by kernel_rfl) ?_
      refine hZ _ ?_
      refine RX2_g rfl fun Z hZ => ?_
      simp only [go_sem, seval, hb1, hx2, hc8, hr18, hc19, hr25, hc26]
      repeat with_reducible refine and_bar (by kernel_rfl) ?_
      refine hZ _ ?_
      refine RX2_g rfl fun Z hZ => ?_
      simp only [go_sem, seval, hb1, hx2, hc8, hr18, hc19, hr25, hc26]
      repeat with_reducible refine and_bar (by kernel_rfl) ?_
      refine hZ _ ?_
      refine RX2_g rfl fun Z hZ => ?_
      simp only [go_sem, seval, hb1, hx2, hc8, hr18, hc19, hr25, hc26]
      repeat with_reducible refine and_bar (by kernel_rfl) ?_
      refine hZ _ ?_
      refine RX2_g rfl fun Z hZ => ?_
      simp only [go_sem, seval, hb1, hx2, hc8, hr18, hc19, hr25, hc26]
      repeat with_reducible refine and_bar (by kernel_rfl) ?_
      refine hZ _ ?_
      refine RX2_s rfl rfl fun Z hZ => ?_
      simp only [go_sem, seval, hb1, hx2, hc8, hr18, hc19, hr25, hc26]
      repeat with_reducible refine and_bar (by kernel_rfl) ?_
      refine hZ _ ?_
      refine RX2_s rfl rfl fun Z hZ => ?_
      simp only [go_sem, seval, hb1, hx2, hc8, hr18, hc19, hr25, hc26]
      repeat with_reducible refine and_bar (by kernel_rfl) ?_
      refine hZ _ ?_
      refine RX2_g rfl fun Z hZ => ?_
      simp only [go_sem, seval, hb1, hx2, hc8, hr18, hc19, hr25, hc26]
      repeat with_reducible refine and_bar (by kernel_rfl) ?_
      refine hZ _ ?_
      refine RX2_g rfl fun Z hZ => ?_
      simp only [go_sem, seval, hb1, hx2, hc8, hr18, hc19, hr25, hc26]
      repeat with_reducible refine and_bar (by kernel_rfl) ?_
      refine hZ _ ?_
      refine RX2_g rfl fun Z hZ => ?_
      simp only [go_sem, seval, hb1, hx2, hc8, hr18, hc19, hr25, hc26]
      repeat with_reducible refine and_bar (by kernel_rfl) ?_
      refine hZ _ ?_
      refine RX2_g rfl fun Z hZ => ?_
      simp only [go_sem, seval, hb1, hx2, hc8, hr18, hc19, hr25, hc26]
      repeat with_reducible refine and_bar (by kernel_rfl) ?_
      refine hZ _ ?_
      refine RX2_g rfl fun Z hZ => ?_
      simp only [go_sem, seval, hb1, hx2, hc8, hr18, hc19, hr25, hc26]
      repeat with_reducible refine and_bar (by kernel_rfl) ?_
      refine hZ _ ?_
      refine RX2_g rfl fun Z hZ => ?_
      simp only [go_sem, seval, hb1, hx2, hc8, hr18, hc19, hr25, hc26]
      repeat with_reducible refine and_bar (by kernel_rfl) ?_
      refine hZ _ ?_
      refine RX2_s rfl rfl fun Z hZ => ?_
      simp only [go_sem, seval, hb1, hx2, hc8, hr18, hc19, hr25, hc26]
      repeat with_reducible refine and_bar (by kernel_rfl) ?_
      refine hZ _ ?_
      refine RX2_s rfl rfl fun Z hZ => ?_
      simp only [go_sem, seval, hb1, hx2, hc8, hr18, hc19, hr25, hc26]
      repeat with_reducible refine and_bar (by kernel_rfl) ?_
      refine hZ _ ?_
      refine RX2_g rfl fun Z hZ => ?_
      simp only [go_sem, seval, hb1, hx2, hc8, hr18, hc19, hr25, hc26]
      repeat with_reducible refine and_bar (by kernel_rfl) ?_
      refine hZ _ ?_
      refine RX2_g rfl fun Z hZ => ?_
      simp only [go_sem, seval, hb1, hx2, hc8, hr18, hc19, hr25, hc26]
      repeat with_reducible refine and_bar (by kernel_rfl) ?_
      refine hZ _ ?_
      refine RX2_g rfl fun Z hZ => ?_
      simp only [go_sem, seval, hb1, hx2, hc8, hr18, hc19, hr25, hc26]
      repeat with_reducible refine and_bar (by kernel_rfl) ?_
      refine hZ _ ?_
      refine RX2_g rfl fun Z hZ => ?_
      simp only [go_sem, seval, hb1, hx2, hc8, hr18, hc19, hr25, hc26]
      repeat with_reducible refine and_bar (by kernel_rfl) ?_
      refine hZ _ ?_
      refine RX2_g rfl fun Z hZ => ?_
      simp only [go_sem, seval, hb1, hx2, hc8, hr18, hc19, hr25, hc26]
      repeat with_reducible refine and_bar (by kernel_rfl) ?_
      refine hZ _ ?_
      refine RX2_g rfl fun Z hZ => ?_
      simp only [go_sem, seval, hb1, hx2, hc8, hr18, hc19, hr25, hc26]
      repeat with_reducible refine and_bar (by kernel_rfl) ?_
      refine hZ _ ?_
      refine RX2_off rfl fun Z hZ => ?_
      simp only [go_sem, seval, hb1, hx2, hc8, hr18, hc19, hr25, hc26]
      repeat with_reducible refine and_bar (by kernel_rfl) ?_
      refine hZ _ ?_
      refine RX2_g rfl fun Z hZ => ?_
      simp only [go_sem, seval, hb1, hx2, hc8, hr18, hc19, hr25, hc26]
      repeat with_reducible refine and_bar (by kernel_rfl) ?_
      refine hZ _ ?_
      refine RX2_g rfl fun Z hZ => ?_
      simp only [go_sem, seval, hb1, hx2, hc8, hr18, hc19, hr25, hc26]
      repeat with_reducible refine and_bar (by kernel_rfl) ?_
      refine hZ _ ?_
      refine RX2_g rfl fun Z hZ => ?_
      simp only [go_sem, seval, hb1, hx2, hc8, hr18, hc19, hr25, hc26]
      repeat with_reducible refine and_bar (by kernel_rfl) ?_
      refine hZ _ ?_
      refine RX2_g rfl fun Z hZ => ?_
      simp only [go_sem, seval, hb1, hx2, hc8, hr18, hc19, hr25, hc26]
      repeat with_reducible refine and_bar (by kernel_rfl) ?_
      refine hZ _ ?_
      refine RX2_off rfl fun Z hZ => ?_
      simp only [go_sem, seval, hb1, hx2, hc8, hr18, hc19, hr25, hc26]
      repeat with_reducible refine and_bar (by kernel_rfl) ?_
      refine hZ _ ?_
      refine RX2_g rfl fun Z hZ => ?_
      simp only [go_sem, seval, hb1, hx2, hc8, hr18, hc19, hr25, hc26]
      repeat with_reducible refine and_bar (by kernel_rfl) ?_
      refine hZ _ ?_
      refine RX2_g rfl fun Z hZ => ?_
      simp only [go_sem, seval, hb1, hx2, hc8, hr18, hc19, hr25, hc26]
      repeat with_reducible refine and_bar (by kernel_rfl) ?_
      refine hZ _ ?_
      refine RX2_s rfl rfl fun Z hZ => ?_
      simp only [go_sem, seval, hb1, hx2, hc8, hr18, hc19, hr25, hc26]
      repeat with_reducible refine and_bar (by kernel_rfl) ?_
      refine hZ _ ?_
      refine RX2_s rfl rfl fun Z hZ => ?_
      simp only [go_sem, seval, hb1, hx2, hc8, hr18, hc19, hr25, hc26]
      repeat with_reducible refine and_bar (by kernel_rfl) ?_
      refine hZ _ ?_
      refine RX2_g rfl fun Z hZ => ?_
      simp only [go_sem, seval, hb1, hx2, hc8, hr18, hc19, hr25, hc26]
      repeat with_reducible refine and_bar (by kernel_rfl) ?_
      refine hZ _ ?_
      refine RX2_g rfl fun Z hZ => ?_
      simp only [go_sem, seval, hb1, hx2, hc8, hr18, hc19, hr25, hc26]
      repeat with_reducible refine and_bar (by kernel_rfl) ?_
      refine hZ _ ?_
      refine RX2_g rfl fun Z hZ => ?_
      simp only [go_sem, seval, hb1, hx2, hc8, hr18, hc19, hr25, hc26]
      repeat with_reducible refine and_bar (by kernel_rfl) ?_
      refine hZ _ ?_
      refine RX2_g rfl fun Z hZ => ?_
      simp only [go_sem, seval, hb1, hx2, hc8, hr18, hc19, hr25, hc26]
      repeat with_reducible refine and_bar (by kernel_rfl) ?_
      refine hZ _ ?_
      refine RX2_g rfl fun Z hZ => ?_
      simp only [go_sem, seval, hb1, hx2, hc8, hr18, hc19, hr25, hc26]
      repeat with_reducible refine and_bar (by kernel_rfl) ?_
      refine hZ _ ?_
      refine RX2_g rfl fun Z hZ => ?_
      simp only [go_sem, seval, hb1, hx2, hc8, hr18, hc19, hr25, hc26]
      repeat with_reducible refine and_bar (by kernel_rfl) ?_
      refine hZ _ ?_
      refine RX2_off rfl fun Z hZ => ?_
      simp only [go_sem, seval, hb1, hx2, hc8, hr18, hc19, hr25, hc26]
      repeat with_reducible refine and_bar (by kernel_rfl) ?_
      refine hZ _ ?_
      refine RX2_g rfl fun Z hZ => ?_
      simp only [go_sem, seval, hb1, hx2, hc8, hr18, hc19, hr25, hc26]
      repeat with_reducible refine and_bar (by kernel_rfl) ?_
      refine hZ _ ?_
      refine RX2_g rfl fun Z hZ => ?_
      simp only [go_sem, seval, hb1, hx2, hc8, hr18, hc19, hr25, hc26]
      repeat with_reducible refine and_bar (by kernel_rfl) ?_
      refine hZ _ ?_
      refine RX2_g rfl fun Z hZ => ?_
      simp only [go_sem, seval, hb1, hx2, hc8, hr18, hc19, hr25, hc26]
      repeat with_reducible refine and_bar (by kernel_rfl) ?_
      refine hZ _ ?_
      refine RX2_off rfl fun Z hZ => ?_
      simp only [go_sem, seval, hb1, hx2, hc8, hr18, hc19, hr25, hc26]
      repeat with_reducible refine and_bar (by kernel_rfl) ?_
      refine hZ _ ?_
      refine RX2_g rfl fun Z hZ => ?_
      simp only [go_sem, seval, hb1, hx2, hc8, hr18, hc19, hr25, hc26]
      repeat with_reducible refine and_bar (by kernel_rfl) ?_
      refine hZ _ ?_
      refine RX2_g rfl fun Z hZ => ?_
      simp only [go_sem, seval, hb1, hx2, hc8, hr18, hc19, hr25, hc26]
      repeat with_reducible refine and_bar (by kernel_rfl) ?_
      refine hZ _ ?_
      refine RX2_s rfl rfl fun Z hZ => ?_
      simp only [go_sem, seval, hb1, hx2, hc8, hr18, hc19, hr25, hc26]
      repeat with_reducible refine and_bar (by kernel_rfl) ?_
      refine hZ _ ?_
      refine RX2_end (by kernel_rfl) (hY _ (pp ?_))
      refine hJ24 _ true ?_ h
      refine weak_roots ?_ ?_ <;> repeat' first | exact xn | exact rn | refine xc ?_ ?_ | refine rc ?_ ?_ ?_ | rfl | simp only [go_sem, seval, Bool.or_self, List.length_set, Int.natCast_zero, Int.cast_ofNat_Int, hb1, hx2, hc8, hr18, hc19, hr25, hc26]
    rw [if_pos hc26] at h
    refine RX2_norm fun Z hZ => ?_
    simp only [hc26, Bool.not_true, Bool.not_false]
    refine hZ _ ?_
    refine RX2_g rfl fun Z hZ => ?_
    simp only [go_sem, seval, hb1, hx2, hc8, hr18, hc19, hr25, hc26]
    repeat with_reducible refine and_bar (by kernel_rfl) ?_
    refine hZ _ ?_
    refine RX2_g rfl fun Z hZ => ?_
    simp only [go_sem, seval, hb1, hx2, hc8, hr18, hc19, hr25, hc26]
    repeat with_reducible refine and_bar (by kernel_rfl) ?_
    refine hZ _ ?_
    refine RX2_g rfl fun Z hZ => ?_
    simp only [go_sem, seval, hb1, hx2, hc8, hr18, hc19, hr25, hc26]
    repeat with_reducible refine and_bar (by kernel_rfl) ?_
    refine hZ _ ?_
    refine RX2_s rfl rfl fun Z hZ => ?_
    simp only [go_sem, seval, hb1, hx2, hc8, hr18, hc19, hr25, hc26]
    repeat with_reducible refine and_bar (by kernel_rfl) ?_
    refine hZ _ ?_
    refine RX2_s rfl rfl fun Z hZ => ?_
    simp only [go_sem, seval, hb1, hx2, hc8, hr18, hc19, hr25, hc26]
    repeat with_reducible refine and_bar (by kernel_rfl) ?_
    refine hZ _ ?_
    refine RX2_guard_dec rfl (fun hc27 => ?_) (fun hc27 => ?_)
    · have hc27d := decide_eq_true hc27
      first | rw [if_pos hc27] at h | rw [if_pos hc27d] at h
      refine RX2_norm fun Z hZ => ?_
      simp only [hc27d, Bool.not_true, Bool.not_false]
      refine hZ _ ?_
      refine RX2_g rfl fun Z hZ => ?_
      simp only [go_sem, seval, hb1, hx2, hc8, hr18, hc19, hr25, hc26, hc27d]
      repeat with_reducible refine and_bar (by kernel_rfl) ?_
      refine hZ _ ?_
      refine RX2_g rfl fun Z hZ => ?_
      simp only [go_sem, seval, hb1, hx2, hc8, hr18, hc19, hr25, hc26, hc27d]
      repeat with_reducible refine and_bar (by kernel_rfl) ?_
      refine hZ _ ?_
      refine RX2_g rfl fun Z hZ => ?_
      simp only [go_sem, seval, hb1, hx2, hc8, hr18, hc19, hr25, hc26, hc27d]
      repeat with_reducible refine and_bar (by kernel_rfl) ?_
      refine hZ _ ?_
      refine RX2_g rfl fun Z hZ => ?_
      simp only [go_sem, seval, hb1, hx2, hc8, hr18, hc19, hr25, hc26, hc27d]
      repeat with_reducible refine and_bar (by kernel_rfl) ?_
      refine hZ _ ?_
      refine RX2_g rfl fun Z hZ => ?_
      simp only [go_sem, seval, hb1, hx2, hc8, hr18, hc19, hr25, hc26, hc27d]
      repeat with_reducible refine and_bar (by kernel_rfl) ?_
      refine hZ _ ?_
      refine RX2_g rfl fun Z hZ => ?_
      simp only [go_sem, seval, hb1, hx2, hc8, hr18, hc19, hr25, hc26, hc27d]
      repeat with_reducible refine and_bar (by kernel_rfl) ?_
      refine hZ _ ?_
      refine RX2_s rfl rfl fun Z hZ => ?_
      simp only [go_sem, seval, hb1, hx2, hc8, hr18, hc19, hr25, hc26, hc27d]
      repeat with_reducible refine and_bar (by kernel_rfl) ?_
      refine hZ _ ?_
      refine RX2_s rfl rfl fun Z hZ => ?_
      simp only [go_sem, seval, hb1, hx2, hc8, hr18, hc19, hr25, hc26, hc27d]
      repeat with_reducible refine and_bar (by kernel_rfl) ?_
      refine hZ _ ?_
      refine RX2_g rfl fun Z hZ => ?_
      simp only [go_sem, seval, hb1, hx2, hc8, hr18, hc19, hr25, hc26, hc27d]
      repeat with_reducible refine and_bar (by kernel_rfl) ?_
      refine hZ _ ?_
      refine RX2_g rfl fun Z hZ => ?_
      simp only [go_sem, seval, hb1, hx2, hc8, hr18, hc19, hr25, hc26, hc27d]
      repeat with_reducible refine and_bar (by kernel_rfl) ?_
      refine hZ _ ?_
      refine RX2_g rfl fun Z hZ => ?_
      simp only [go_sem, seval, hb1, hx2, hc8, hr18, hc19, hr25, hc26, hc27d]
      repeat with_reducible refine and_bar (by kernel_rfl) ?_
      refine hZ _ ?_
      refine RX2_g rfl fun Z hZ => ?_
      simp only [go_sem, seval, hb1, hx2, hc8, hr18, hc19, hr25, hc26, hc27d]
      repeat with_reducible refine and_bar (by kernel_rfl) ?_
      refine hZ _ ?_
      refine RX2_g rfl fun Z hZ => ?_
      simp only [go_sem, seval, hb1, hx2, hc8, hr18, hc19, hr25, hc26, hc27d]
      repeat with_reducible refine and_bar (by kernel_rfl) ?_
      refine hZ _ ?_
      refine RX2_g rfl fun Z hZ => ?_
      simp only [go_sem, seval, hb1, hx2, hc8, hr18, hc19, hr25, hc26, hc27d]
      repeat with_reducible refine and_bar (by kernel_rfl) ?_
      refine hZ _ ?_
      refine RX2_s rfl rfl fun Z hZ => ?_
      simp only [go_sem, seval, hb1, hx2, hc8, hr18, hc19, hr25, hc26, hc27d]
      repeat with_reducible refine and_bar (by kernel_rfl) ?_
      refine hZ _ ?_
      refine RX2_s rfl rfl fun Z hZ => ?_
      simp only [go_sem, seval, hb1, hx2, hc8, hr18, hc19, hr25, hc26, hc27d]
      repeat with_reducible refine and_bar (by kernel_rfl) ?_
      refine hZ _ ?_
      refine RX2_g rfl fun Z hZ => ?_
      simp only [go_sem, seval, hb1, hx2, hc8, hr18, hc19, hr25, hc26, hc27d]
      repeat with_reducible refine and_bar (by kernel_rfl) ?_
      refine hZ _ ?_
      refine RX2_g rfl fun Z hZ => ?_
      simp only [go_sem, seval, hb1, hx2, hc8, hr18, hc19, hr25, hc26, hc27d]
      repeat with_reducible refine and_bar (by kernel_rfl) ?_
      refine hZ _ ?_
      refine RX2_g rfl fun Z hZ => ?_
      simp only [go_sem, seval, hb1, hx2, hc8, hr18, hc19, hr25, hc26, hc27d]
      repeat with_reducible refine and_bar (by kernel_rfl) ?_
      refine hZ _ ?_
      refine RX2_g rfl fun Z hZ => ?_
      simp only [go_sem, seval, hb1, hx2, hc8, hr18, hc19, hr25, hc26, hc27d]
      repeat with_reducible refine and_bar (by kernel_rfl) ?_
      refine hZ _ ?_
      refine RX2_g rfl fun Z hZ => ?_
      simp only [go_sem, seval, hb1, hx2, hc8, hr18, hc19, hr25, hc26, hc27d]
      repeat with_reducible refine and_bar (by kernel_rfl) ?_
      refine hZ _ ?_
      refine RX2_g rfl fun Z hZ => ?_
      simp only [go_sem, seval, hb1, hx2, hc8, hr18, hc19, hr25, hc26, hc27d]
      repeat with_reducible refine and_bar (by kernel_rfl) ?_
      refine hZ _ ?_
      refine RX2_s rfl rfl fun Z hZ => ?_
      simp only [go_sem, seval, hb1, hx2, hc8, hr18, hc19, hr25, hc26, hc27d]
      repeat with_reducible refine and_bar (by kernel_rfl) ?_
      refine hZ _ ?_
      refine RX2_s rfl rfl fun Z hZ => ?_
      simp only [go_sem, seval, hb1, hx2, hc8, hr18, hc19, hr25, hc26, hc27d]
      repeat with_reducible refine and_bar (by kernel_rfl) ?_
      refine hZ _ ?_
      refine RX2_g rfl fun Z hZ => ?_
      simp only [go_sem, seval, hb1, hx2, hc8, hr18, hc19, hr25, hc26, hc27d]
      repeat with_reducible refine and_bar (by kernel_rfl) ?_
      refine hZ _ ?_
      refine RX2_g rfl fun Z hZ => ?_
      simp only [go_sem, seval, hb1, hx2, hc8, hr18, hc19, hr25, hc26, hc27d]
      repeat with_reducible refine and_bar (by kernel_rfl) ?_
      refine hZ _ ?_
      refine RX2_g rfl fun Z hZ => ?_
      simp only [go_sem, seval, hb1, hx2, hc8, hr18, hc19, hr25, hc26, hc27d]
      repeat with_reducible refine and_bar (by kernel_rfl) ?_
      refine hZ _ ?_
      refine RX2_g rfl fun Z hZ => ?_
      simp only [go_sem, seval, hb1, hx2, hc8, hr18, hc19, hr25, hc26, hc27d]
      repeat with_reducible refine and_bar (by kernel_rfl) ?_
      refine hZ _ ?_
      refine RX2_g rfl fun Z hZ => ?_
      simp only [go_sem, seval, hb1, hx2, hc8, hr18, hc19, hr25, hc26, hc27d]
      repeat with_reducible refine and_bar (by kernel_rfl) ?_
      refine hZ _ ?_
      refine RX2_g rfl fun Z hZ => ?_
      simp only [go_sem, seval, hb1, hx2, hc8, hr18, hc19, hr25, hc26, hc27d]
      repeat with_reducible refine and_bar (by kernel_rfl) ?_
      refine hZ _ ?_
      refine RX2_off rfl fun Z hZ => ?_
      simp only [go_sem, seval, hb1, hx2, hc8, hr18, hc19, hr25, hc26, hc27d]
      repeat with_reducible refine and_bar (by kernel_rfl) ?_
      refine hZ _ ?_
      refine RX2_g rfl fun Z hZ => ?_
      simp only [go_sem, seval, hb1, hx2, hc8, hr18, hc19, hr25, hc26, hc27d]
      repeat with_reducible refine and_bar (by kernel_rfl) ?_
      refine hZ _ ?_
      refine RX2_g rfl fun Z hZ => ?_
      simp only [go_sem, seval, hb1, hx2, hc8, hr18, hc19, hr25, hc26, hc27d]
      repeat with_reducible refine and_bar (by kernel_rfl) ?_
      refine hZ _ ?_
      refine RX2_g rfl fun Z hZ => ?_
      simp only [go_sem, seval, hb1, hx2, hc8, hr18, hc19, hr25, hc26, hc27d]
      repeat with_reducible refine and_bar (by kernel_rfl) ?_
      refine hZ _ ?_
      refine RX2_g rfl fun Z hZ => ?_
      simp only [go_sem, seval, hb1, hx2, hc8, hr18, hc19, hr25, hc26, hc27d]
      repeat with_reducible refine and_bar (by kernel_rfl) ?_
      refine hZ _ ?_
      refine RX2_off rfl fun Z hZ => ?_
      simp only [go_sem, seval, hb1, hx2, hc8, hr18, hc19, hr25, hc26, hc27d]
      repeat with_reducible refine and_bar (by kernel_rfl) ?_
      refine hZ _ ?_
      refine RX2_g rfl fun Z hZ => ?_
      simp only [go_sem, seval, hb1, hx2, hc8, hr18, hc19, hr25, hc26, hc27d]
      repeat with_reducible refine and_bar (by kernel_rfl) ?_
      refine hZ _ ?_
      refine RX2_g rfl fun Z hZ => ?_
      simp only [go_sem, seval, hb1, hx2, hc8, hr18, hc19, hr25, hc26, hc27d]
      repeat with_reducible refine and_bar (by kernel_rfl) ?_
      refine hZ _ ?_
      refine RX2_s rfl rfl fun Z hZ => ?_
      simp only [go_sem, seval, hb1, hx2, hc8, hr18, hc19, hr25, hc26, hc27d]
      repeat with_reducible refine and_bar (by kernel_rfl) ?_
      refine hZ _ ?_
      refine RX2_s rfl rfl fun Z hZ => ?_
      simp only [go_sem, seval, hb1, hx2, hc8, hr18, hc19, hr25, hc26, hc27d]
      repeat with_reducible refine and_bar (by kernel_rfl) ?_
      refine hZ _ ?_
      refine RX2_g rfl fun Z hZ => ?_
      simp only [go_sem, seval, hb1, hx2, hc8, hr18, hc19, hr25, hc26, hc27d]
      repeat with_reducible refine and_bar (by kernel_rfl) ?_
      refine hZ _ ?_
      refine RX2_g rfl fun Z hZ => ?_
      simp only [go_sem, seval, hb1, hx2, hc8, hr18, hc19, hr25, hc26, hc27d]
      repeat with_reducible refine and_bar (by kernel_rfl) ?_
      refine hZ _ ?_
      refine RX2_g rfl fun Z hZ => ?_
      simp only [go_sem, seval, hb1, hx2, hc8, hr18, hc19, hr25, hc26, hc27d]
      repeat with_reducible refine and_bar (by kernel_rfl) ?_
      refine hZ _ ?_
      refine RX2_g rfl fun Z hZ => ?_
      simp only [go_sem, seval, hb1, hx2, hc8, hr18, hc19, hr25, hc26, hc27d]
      repeat with_reducible refine and_bar (by kernel_rfl) ?_
      refine hZ _ ?_
      refine RX2_g rfl fun Z hZ => ?_
      simp only [go_sem, seval, hb1, hx2, hc8, hr18, hc19, hr25, hc26, hc27d]
      repeat with_reducible refine and_bar (by kernel_rfl) ?_
      refine hZ _ ?_
      refine RX2_g rfl fun Z hZ => ?_
      simp only [go_sem, seval, hb1, hx2, hc8, hr18, hc19, hr25, hc26, hc27d]
      repeat with_reducible refine and_bar (by kernel_rfl) ?_
      refine hZ _ ?_
      refine RX2_off rfl fun Z hZ => ?_
      simp only [go_sem, seval, hb1, hx2, hc8, hr18, hc19, hr25, hc26, hc27d]
      repeat with_reducible refine and_bar (by kernel_rfl) ?_
      refine hZ _ ?_
      refine RX2_g rfl fun Z hZ => ?_
      simp only [go_sem, seval, hb1, hx2, hc8, hr18, hc19, hr25, hc26, hc27d]
      repeat with_reducible refine and_bar (by kernel_rfl) ?_
      refine hZ _ ?_
      refine RX2_g rfl fun Z hZ => ?_
      simp only [go_sem, seval, hb1, hx2, hc8, hr18, hc19, hr25, hc26, hc27d]
      repeat with_reducible refine and_bar (by kernel_rfl) ?_
      refine hZ _ ?_
      refine RX2_g rfl fun Z hZ => ?_
      simp only [go_sem, seval, hb1, hx2, hc8, hr18, hc19, hr25, hc26, hc27d]
      repeat with_reducible refine and_bar (by kernel_rfl) ?_
      refine hZ _ ?_
      refine RX2_off rfl fun Z hZ => ?_
      simp only [go_sem, seval, hb1, hx2, hc8, hr18, hc19, hr25, hc26, hc27d]
      repeat with_reducible refine and_bar (by kernel_rfl) ?_
      refine hZ _ ?_
      refine RX2_g rfl fun Z hZ => ?_
      simp only [go_sem, seval, hb1, hx2, hc8, hr18, hc19, hr25, hc26, hc27d]
      repeat with_reducible refine and_bar (by kernel_rfl) ?_
      refine hZ _ ?_
      refine RX2_g rfl fun Z hZ => ?_
      simp only [go_sem, seval, hb1, hx2, hc8, hr18, hc19, hr25, hc26, hc27d]
      repeat with_reducible refine and_bar (by kernel_rfl) ?_
      refine hZ _ ?_
      refine RX2_s rfl rfl fun Z hZ => ?_
      simp only [go_sem, seval, hb1, hx2, hc8, hr18, hc19, hr25, hc26, hc27d]
      repeat with_reducible refine and_bar (by kernel_rfl) ?_
      refine hZ _ ?_
      refine RX2_end (by kernel_rfl) (hY _ (pp ?_))
      refine hJ24 _ true ?_ h
      refine weak_roots ?_ ?_ <;> repeat' first | exact xn | exact rn | refine xc ?_ ?_ | refine rc ?_ ?_ ?_ | rfl | simp only [go_sem, seval, Bool.or_self, List.length_set, Int.natCast_zero, Int.cast_ofNat_Int, hb1, hx2, hc8, hr18, hc19, hr25, hc26, hc27d]
    have hc27d := decide_eq_false hc27
    first | rw [if_neg hc27] at h | rw [if_neg (ne_true_of_eq_false hc27d)] at h
    refine RX2_norm fun Z hZ => ?_
    simp only [hc27d, Bool.not_true, Bool.not_false]
    refine hZ _ ?_
    refine RX2_g rfl fun Z hZ => ?_
    simp only [go_sem, seval, hb1, hx2, hc8, hr18, hc19, hr25, hc26, hc27d]
    repeat with_reducible refine and_bar (by kernel_rfl) ?_
    refine hZ _ ?_
    refine RX2_g rfl fun Z hZ => ?_
    simp only [go_sem, seval, hb1, hx2, hc8, hr18, hc19, hr25, hc26, hc27d]
    repeat with_reducible refine and_bar (by kernel_rfl) ?_
    refine hZ _ ?_
    refine RX2_g rfl fun Z hZ => ?_
    simp only [go_sem, seval, hb1, hx2, hc8, hr18, hc19, hr25, hc26, hc27d]
    repeat with_reducible refine and_bar (by kernel_rfl) ?_
    refine hZ _ ?_
    refine RX2_g rfl fun Z hZ => ?_
    simp only [go_sem, seval, hb1, hx2, hc8, hr18, hc19, hr25, hc26, hc27d]
    repeat with_reducible refine and_bar (by kernel_rfl) ?_
    refine hZ _ ?_
    refine RX2_g rfl fun Z hZ => ?_
    simp only [go_sem, seval, hb1, hx2, hc8, hr18, hc19, hr25, hc26, hc27d]
    repeat with_reducible refine and_bar (by kernel_rfl) ?_
    refine hZ _ ?_
    refine RX2_g rfl fun Z hZ => ?_
    simp only [go_sem, seval, hb1, hx2, hc8, hr18, hc19, hr25, hc26, hc27d]
    repeat with_reducible refine and_bar (by kernel_rfl) ?_
    refine hZ _ ?_
    refine RX2_s rfl rfl fun Z hZ => ?_
    simp only [go_sem, seval, hb1, hx2, hc8, hr18, hc19, hr25, hc26, hc27d]
    repeat with_reducible refine and_bar (by kernel_rfl) ?_
    refine hZ _ ?_
    refine RX2_s rfl rfl fun Z hZ => ?_
    simp only [go_sem, seval, hb1, hx2, hc8, hr18, hc19, hr25, hc26, hc27d]
    repeat with_reducible refine and_bar (by kernel_rfl) ?_
    refine hZ _ ?_
    refine RX2_guard_nbool rfl (fun hc28 => ?_) (fun hc28 => ?_)
    · rw [if_neg (ne_true_of_eq_false hc28)] at h
      refine RX2_norm fun Z hZ => ?_
      simp only [hc28, Bool.not_true, Bool.not_false]
      refine hZ _ ?_
      refine RX2_g rfl fun Z hZ => ?_
      simp only [go_sem, seval, hb1, hx2, hc8, hr18, hc19, hr25, hc26, hc27d, hc28]
      repeat with_reducible refine and_bar (by kernel_rfl) ?_
      refine hZ _ ?_
      refine RX2_g rfl fun Z hZ => ?_
      simp only [go_sem, seval, hb1, hx2, hc8, hr18, hc19, hr25, hc26, hc27d, hc28]
      repeat with_reducible refine and_bar (by kernel_rfl) ?_
      refine hZ _ ?_
      refine RX2_g rfl fun Z hZ => ?_
      simp only [go_sem, seval, hb1, hx2, hc8, hr18, hc19, hr25, hc26, hc27d, hc28]
      repeat with_reducible refine and_bar (by kernel_rfl) ?_
      refine hZ _ ?_
      refine RX2_g rfl fun Z hZ => ?_
      simp only [go_sem, seval, hb1, hx2, hc8, hr18, hc19, hr25, hc26, hc27d, hc28]
      repeat with_reducible refine and_bar (by kernel_rfl) ?_
      refine hZ _ ?_
      refine RX2_g rfl fun Z hZ => ?_
      simp only [go_sem, seval, hb1, hx2, hc8, hr18, hc19, hr25, hc26, hc27d, hc28]
      repeat with_reducible refine and_bar (by kernel_rfl) ?_
      refine hZ _ ?_
      refine RX2_g rfl fun Z hZ => ?_
      simp only [go_sem, seval, hb1, hx2, hc8, hr18, hc19, hr25, hc26, hc27d, hc28]
      repeat with_reducible refine and_bar (by kernel_rfl) ?_
      refine hZ _ ?_
      refine RX2_s rfl rfl fun Z hZ => ?_
      simp only [go_sem, seval, hb1, hx2, hc8, hr18, hc19, hr25, hc26, hc27d, hc28]
      repeat with_reducible refine and_bar (by kernel_rfl) ?_
      refine hZ _ ?_
      refine RX2_s rfl rfl fun Z hZ => ?_
      simp only [go_sem, seval, hb1, hx2, hc8, hr18, hc19, hr25, hc26, hc27d, hc28]
      repeat with_reducible refine and_bar (by kernel_rfl) ?_
      refine hZ _ ?_
      refine RX2_g rfl fun Z hZ => ?_
      simp only [go_sem, seval, hb1, hx2, hc8, hr18, hc19, hr25, hc26, hc27d, hc28]
      repeat with_reducible refine and_bar (by kernel_rfl) ?_
      refine hZ _ ?_
      refine RX2_g rfl fun Z hZ => ?_
      simp only [go_sem, seval, hb1, hx2, hc8, hr18, hc19, hr25, hc26, hc27d, hc28]
      repeat with_reducible refine and_bar (by kernel_rfl) ?_
      refine hZ _ ?_
      refine RX2_g rfl fun Z hZ => ?_
      simp only [go_sem, seval, hb1, hx2, hc8, hr18, hc19, hr25, hc26, hc27d, hc28]
      repeat with_reducible refine and_bar (by kernel_rfl) ?_
      refine hZ _ ?_
      refine RX2_g rfl fun Z hZ => ?_
      simp only [go_sem, seval, hb1, hx2, hc8, hr18, hc19, hr25, hc26, hc27d, hc28]
      repeat with_reducible refine and_bar (by kernel_rfl) ?_
      refine hZ _ ?_
      refine RX2_g rfl fun Z hZ => ?_
      simp only [go_sem, seval, hb1, hx2, hc8, hr18, hc19, hr25, hc26, hc27d, hc28]
      repeat with_reducible refine and_bar (by kernel_rfl) ?_
      refine hZ _ ?_
      refine RX2_g rfl fun Z hZ => ?_
      simp only [go_sem, seval, hb1, hx2, hc8, hr18, hc19, hr25, hc26, hc27d, hc28]
      repeat with_reducible refine and_bar (by kernel_rfl) ?_
      refine hZ _ ?_
      refine RX2_s rfl rfl fun Z hZ => ?_
      simp only [go_sem, seval, hb1, hx2, hc8, hr18, hc19, hr25, hc26, hc27d, hc28]
      repeat with_reducible refine and_bar (by kernel_rfl) ?_
      refine hZ _ ?_
      refine RX2_s rfl rfl fun Z hZ => ?_
      simp only [go_sem, seval, hb1, hx2, hc8, hr18, hc19, hr25, hc26, hc27d, hc28]
      repeat with_reducible refine and_bar (by kernel_rfl) ?_
      refine hZ _ ?_
      refine RX2_g rfl fun Z hZ => ?_
      simp only [go_sem, seval, hb1, hx2, hc8, hr18, hc19, hr25, hc26, hc27d, hc28]
      repeat with_reducible refine and_bar (by kernel_rfl) ?_
      refine hZ _ ?_
      refine RX2_g rfl fun Z hZ => ?_
      simp only [go_sem, seval, hb1, hx2, hc8, hr18, hc19, hr25, hc26, hc27d, hc28]
      repeat with_reducible refine and_bar (by kernel_rfl) ?_
      refine hZ _ ?_
      refine RX2_g rfl fun Z hZ => ?_
      simp only [go_sem, seval, hb1, hx2, hc8, hr18, hc19, hr25, hc26, hc27d, hc28]
      repeat with_reducible refine and_bar (by kernel_rfl) ?_
      refine hZ _ ?_
      refine RX2_g rfl fun Z hZ => ?_
      simp only [go_sem, seval, hb1, hx2, hc8, hr18, hc19, hr25, hc26, hc27d, hc28]
      repeat with_reducible refine and_bar (by kernel_rfl) ?_
      refine hZ _ ?_
      refine RX2_g rfl fun Z hZ => ?_
      simp only [go_sem, seval, hb1, hx2, hc8, hr18, hc19, hr25, hc26, hc27d, hc28]
      repeat with_reducible refine and_bar (by kernel_rfl) ?_
      refine hZ _ ?_
      refine RX2_g rfl fun Z hZ => ?_
      simp only [go_sem, seval, hb1, hx2, hc8, hr18, hc19, hr25, hc26, hc27d, hc28]
      repeat with_reducible refine and_bar (by kernel_rfl) ?_
      refine hZ _ ?_
      refine RX2_off rfl fun Z hZ => ?_
      simp only [go_sem, seval, hb1, hx2, hc8, hr18, hc19, hr25, hc26, hc27d, hc28]
      repeat with_reducible refine and_bar (by kernel_rfl) ?_
      refine hZ _ ?_
      refine RX2_g rfl fun Z hZ => ?_
      simp only [go_sem, seval, hb1, hx2, hc8, hr18, hc19, hr25, hc26, hc27d, hc28]
      repeat with_reducible refine and_bar (by kernel_rfl) ?_
      refine hZ _ ?_
      refine RX2_g rfl fun Z hZ => ?_
      simp only [go_sem, seval, hb1, hx2, hc8, hr18, hc19, hr25, hc26, hc27d, hc28]
      repeat with_reducible refine and_bar (by kernel_rfl) ?_
      refine hZ _ ?_
      refine RX2_g rfl fun Z hZ => ?_
      simp only [go_sem, seval, hb1, hx2, hc8, hr18, hc19, hr25, hc26, hc27d, hc28]
      repeat with_reducible refine and_bar (by kernel_rfl) ?_
      refine hZ _ ?_
      refine RX2_g rfl fun Z hZ => ?_
      simp only [go_sem, seval, hb1, hx2, hc8, hr18, hc19, hr25, hc26, hc27d, hc28]
      repeat with_reducible refine and_bar (by kernel_rfl) ?_
      refine hZ _ ?_
      refine RX2_off rfl fun Z hZ => ?_
      simp only [go_sem, seval, hb1, hx2, hc8, hr18, hc19, hr25, hc26, hc27d, hc28]
      repeat with_reducible refine and_bar (by kernel_rfl) ?_
      refine hZ _ ?_
      refine RX2_g rfl fun Z hZ => ?_
      simp only [go_sem, seval, hb1, hx2, hc8, hr18, hc19, hr25, hc26, hc27d, hc28]
      repeat with_reducible refine and_bar (by kernel_rfl) ?_
      refine hZ _ ?_
      refine RX2_g rfl fun Z hZ => ?_
      simp only [go_sem, seval, hb1, hx2, hc8, hr18, hc19, hr25, hc26, hc27d, hc28]
      repeat with_reducible refine and_bar (by kernel_rfl) ?_
      refine hZ _ ?_
      refine RX2_s rfl rfl fun Z hZ => ?_
      simp only [go_sem, seval, hb1, hx2, hc8, hr18, hc19, hr25, hc26, hc27d, hc28]
      repeat with_reducible refine and_bar (by kernel_rfl) ?_
      refine hZ _ ?_
      refine RX2_s rfl rfl fun Z hZ => ?_
      simp only [go_sem, seval, hb1, hx2, hc8, hr18, hc19, hr25, hc26, hc27d, hc28]
      repeat with_reducible refine and_bar (by kernel_rfl) ?_
      refine hZ _ ?_
      refine RX2_g rfl fun Z hZ => ?_
      simp only [go_sem, seval, hb1, hx2, hc8, hr18, hc19, hr25, hc26, hc27d, hc28]
      repeat with_reducible refine and_bar (by kernel_rfl) ?_
      refine hZ _ ?_
      refine RX2_g rfl fun Z hZ => ?_
      simp only [go_sem, seval, hb1, hx2, hc8, hr18, hc19, hr25, hc26, hc27d, hc28]
      repeat with_reducible refine and_bar (by kernel_rfl) ?_
      refine hZ _ ?_
      refine RX2_g rfl fun Z hZ => ?_
      simp only [go_sem, seval, hb1, hx2, hc8, hr18, hc19, hr25, hc26, hc27d, hc28]
      repeat with_reducible refine and_bar (by kernel_rfl) ?_
      refine hZ _ ?_
      refine RX2_g rfl fun Z hZ => ?_
      simp only [go_sem, seval, hb1, hx2, hc8, hr18, hc19, hr25, hc26, hc27d, hc28]
      repeat with_reducible refine and_bar (by kernel_rfl) ?_
      refine hZ _ ?_
      refine RX2_g rfl fun Z hZ => ?_
      simp only [go_sem, seval, hb1, hx2, hc8, hr18, hc19, hr25, hc26, hc27d, hc28]
      repeat with_reducible refine and_bar (by kernel_rfl) ?_
      refine hZ _ ?_
      refine RX2_g rfl fun Z hZ => ?_
      simp only [go_sem, seval, hb1, hx2, hc8, hr18, hc19, hr25, hc26, hc27d, hc28]
      repeat with_reducible refine and_bar (by kernel_rfl) ?_
      refine hZ _ ?_
      refine RX2_off rfl fun Z hZ => ?_
      simp only [go_sem, seval, hb1, hx2, hc8, hr18, hc19, hr25, hc26, hc27d, hc28]
      repeat with_reducible refine and_bar (by kernel_rfl) ?_
      refine hZ _ ?_
      refine RX2_g rfl fun Z hZ => ?_
      simp only [go_sem, seval, hb1, hx2, hc8, hr18, hc19, hr25, hc26, hc27d, hc28]
      repeat with_reducible refine and_bar (by kernel_rfl) ?_
      refine hZ _ ?_
      refine RX2_g rfl fun Z hZ => ?_
      simp only [go_sem, seval, hb1, hx2, hc8, hr18, hc19, hr25, hc26, hc27d, hc28]
      repeat with_reducible refine and_bar (by kernel_rfl) ?_
      refine hZ _ ?_
      refine RX2_g rfl fun Z hZ => ?_
      simp only [go_sem, seval, hb1, hx2, hc8, hr18, hc19, hr25, hc26, hc27d, hc28]
      repeat with_reducible refine and_bar (by kernel_rfl) ?_
      refine hZ _ ?_
      refine RX2_off rfl fun Z hZ => ?_
      simp only [go_sem, seval, hb1, hx2, hc8, hr18, hc19, hr25, hc26, hc27d, hc28]
      repeat with_reducible refine and_bar (by kernel_rfl) ?_
      refine hZ _ ?_
      refine RX2_g rfl fun Z hZ => ?_
      simp only [go_sem, seval, hb1, hx2, hc8, hr18, hc19, hr25, hc26, hc27d, hc28]
      repeat with_reducible refine and_bar (by kernel_rfl) ?_
      refine hZ _ ?_
      refine RX2_g rfl fun Z hZ => ?_
      simp only [go_sem, seval, hb1, hx2, hc8, hr18, hc19, hr25, hc26, hc27d, hc28]
      repeat with_reducible refine and_bar (by kernel_rfl) ?_
      refine hZ _ ?_
      refine RX2_s rfl rfl fun Z hZ => ?_
      simp only [go_sem, seval, hb1, hx2, hc8, hr18, hc19, hr25, hc26, hc27d, hc28]
      repeat with_reducible refine and_bar (by kernel_rfl) ?_
      refine hZ _ ?_
      refine RX2_end (by kernel_rfl) (hY _ (pp ?_))
      refine hJ24 _ true ?_ h
      refine weak_roots ?_ ?_ <;> repeat' first | exact xn | exact rn | refine xc ?_ ?_ | refine rc ?_ ?_ ?_ | rfl | simp only [go_sem, seval, Bool.or_self, List.length_set, Int.natCast_zero, Int.cast_ofNat_Int, hb1, hx2, hc8, hr18, hc19, hr25, hc26, hc27d, hc28]
    rw [if_pos hc28] at h
    refine RX2_norm fun Z hZ => ?_
    simp only [hc28, Bool.not_true, Bool.not_false]
    refine hZ _ ?_
    refine RX2_g rfl fun Z hZ => ?_
    simp only [go_sem, seval, hb1, hx2, hc8, hr18, hc19, hr25, hc26, hc27d, hc28]
    repeat with_reducible refine and_bar (by kernel_rfl) ?_
    refine hZ _ ?_
    refine RX2_g rfl fun Z hZ => ?_
    simp only [go_sem, seval, hb1, hx2, hc8, hr18, hc19, hr25, hc26, hc27d, hc28]
    repeat with_reducible refine and_bar (by kernel_rfl) ?_
    refine hZ _ ?_
    refine RX2_g rfl fun Z hZ => ?_
    simp only [go_sem, seval, hb1, hx2, hc8, hr18, hc19, hr25, hc26, hc27d, hc28]
    repeat with_reducible refine and_bar (by kernel_rfl) ?_
    refine hZ _ ?_
    refine RX2_g rfl fun Z hZ => ?_
    simp only [go_sem, seval, hb1, hx2, hc8, hr18, hc19, hr25, hc26, hc27d, hc28]
    repeat with_reducible refine and_bar (by kernel_rfl) ?_
    refine hZ _ ?_
    refine RX2_g rfl fun Z hZ => ?_
    simp only [go_sem, seval, hb1, hx2, hc8, hr18, hc19, hr25, hc26, hc27d, hc28]
    repeat with_reducible refine and_bar (by kernel_rfl) ?_
    refine hZ _ ?_
    refine RX2_g rfl fun Z hZ => ?_
    simp only [go_sem, seval, hb1, hx2, hc8, hr18, hc19, hr25, hc26, hc27d, hc28]
    repeat with_reducible refine and_bar (by kernel_rfl) ?_
    refine hZ _ ?_
    refine RX2_s rfl rfl fun Z hZ => ?_
    simp only [go_sem, seval, hb1, hx2, hc8, hr18, hc19, hr25, hc26, hc27d, hc28]
    repeat with_reducible refine and_bar (by kernel_rfl) ?_
    refine hZ _ ?_
    refine RX2_s rfl rfl fun Z hZ => ?_
    simp only [go_sem, seval, hb1, hx2, hc8, hr18, hc19, hr25, hc26, hc27d, hc28]
    repeat with_reducible refine and_bar (by kernel_rfl) ?_
    refine hZ _ ?_
    refine RX2_guard_ndec rfl (fun hc29 => ?_) (fun hc29 => ?_)
    · have hc29d := decide_eq_false hc29
      first | rw [if_neg hc29] at h | rw [if_neg (ne_true_of_eq_false hc29d)] at h
      refine RX2_norm fun Z hZ => ?_
      simp only [hc29d, Bool.not_true, Bool.not_false]
      refine hZ _ ?_
      refine RX2_g rfl fun Z hZ => ?_
      simp only [go_sem, seval, hb1, hx2, hc8, hr18, hc19, hr25, hc26, hc27d, hc28, hc29d]
      repeat with_reducible refine and_bar (by kernel_rfl) ?_
      refine hZ _ ?_
      refine RX2_g rfl fun Z hZ => ?_
      simp only [go_sem, seval, hb1, hx2, hc8, hr18, hc19, hr25, hc26, hc27d, hc28, hc29d]
      repeat with_reducible refine and_bar (by kernel_rfl) ?_
      refine hZ _ ?_
      refine RX2_g rfl fun Z hZ => ?_
      simp only [go_sem, seval, hb1, hx2, hc8, hr18, hc19, hr25, hc26, hc27d, hc28, hc29d]
      repeat with_reducible refine and_bar (by kernel_rfl) ?_
      refine hZ _ ?_
      refine RX2_g rfl fun Z hZ => ?_
      simp only [go_sem, seval, hb1, hx2, hc8, hr18, hc19, hr25, hc26, hc27d, hc28, hc29d]
      repeat with_reducible refine and_bar (by kernel_rfl) ?_
      refine hZ _ ?_
      refine RX2_g rfl fun Z hZ => ?_
      simp only [go_sem, seval, hb1, hx2, hc8, hr18, hc19, hr25, hc26, hc27d, hc28, hc29d]
      repeat with_reducible refine and_bar (by kernel_rfl) ?_
      refine hZ _ ?_
      refine RX2_g rfl fun Z hZ => ?_
      simp only [go_sem, seval, hb1, hx2, hc8, hr18, hc19, hr25, hc26, hc27d, hc28, hc29d]
      repeat with_reducible refine and_bar (by kernel_rfl) ?_
      refine hZ _ ?_
      refine RX2_s rfl rfl fun Z hZ => ?_
      simp only [go_sem, seval, hb1, hx2, hc8, hr18, hc19, hr25, hc26, hc27d, hc28, hc29d]
      repeat with_reducible refine and_bar (by kernel_rfl) ?_
      refine hZ _ ?_
      refine RX2_s rfl rfl fun Z hZ => ?_
      simp only [go_sem, seval, hb1, hx2, hc8, hr18, hc19, hr25, hc26, hc27d, hc28, hc29d]
      repeat with_reducible refine and_bar (by kernel_rfl) ?_
      refine hZ _ ?_
      refine RX2_g rfl fun Z hZ => ?_
      simp only [go_sem, seval, hb1, hx2, hc8, hr18, hc19, hr25, hc26, hc27d, hc28, hc29d]
      repeat with_reducible refine and_bar (by kernel_rfl) ?_
      refine hZ _ ?_
      refine RX2_g rfl fun Z hZ => ?_
      simp only [go_sem, seval, hb1, hx2, hc8, hr18, hc19, hr25, hc26, hc27d, hc28, hc29d]
      repeat with_reducible refine and_bar (by kernel_rfl) ?_
      refine hZ _ ?_
      refine RX2_g rfl fun Z hZ => ?_
      simp only [go_sem, seval, hb1, hx2, hc8, hr18, hc19, hr25, hc26, hc27d, hc28, hc29d]
      repeat with_reducible refine and_bar (by kernel_rfl) ?_
      refine hZ _ ?_
      refine RX2_g rfl fun Z hZ => ?_
      simp only [go_sem, seval, hb1, hx2, hc8, hr18, hc19, hr25, hc26, hc27d, hc28, hc29d]
      repeat with_reducible refine and_bar (by kernel_rfl) ?_
      refine hZ _ ?_
      refine RX2_g rfl fun Z hZ => ?_
      simp only [go_sem, seval, hb1, hx2, hc8, hr18, hc19, hr25, hc26, hc27d, hc28, hc29d]
      repeat with_reducible refine and_bar (by kernel_rfl) ?_
      refine hZ _ ?_
      refine RX2_g rfl fun Z hZ => ?_
      simp only [go_sem, seval, hb1, hx2, hc8, hr18, hc19, hr25, hc26, hc27d, hc28, hc29d]
      repeat with_reducible refine and_bar (by kernel_rfl) ?_
      refine hZ _ ?_
      refine RX2_off rfl fun Z hZ => ?_
      simp only [go_sem, seval, hb1, hx2, hc8, hr18, hc19, hr25, hc26, hc27d, hc28, hc29d]
      repeat with_reducible refine and_bar (by kernel_rfl) ?_
      refine hZ _ ?_
      refine RX2_g rfl fun Z hZ => ?_
      simp only [go_sem, seval, hb1, hx2, hc8, hr18, hc19, hr25, hc26, hc27d, hc28, hc29d]
      repeat with_reducible refine and_bar (by kernel_rfl) ?_
      refine hZ _ ?_
      refine RX2_g rfl fun Z hZ => ?_
      simp only [go_sem, seval, hb1, hx2, hc8, hr18, hc19, hr25, hc26, hc27d, hc28, hc29d]
      repeat with_reducible refine and_bar (by kernel_rfl) ?_
      refine hZ _ ?_
      refine RX2_g rfl fun Z hZ => ?_
      simp only [go_sem, seval, hb1, hx2, hc8, hr18, hc19, hr25, hc26, hc27d, hc28, hc29d]
      repeat with_reducible refine and_bar (by kernel_rfl) ?_
      refine hZ _ ?_
      refine RX2_g rfl fun Z hZ => ?_
      simp only [go_sem, seval, hb1, hx2, hc8, hr18, hc19, hr25, hc26, hc27d, hc28, hc29d]
      repeat with_reducible refine and_bar (by kernel_rfl) ?_
      refine hZ _ ?_
      refine RX2_off rfl fun Z hZ => ?_
      simp only [go_sem, seval, hb1, hx2, hc8, hr18, hc19, hr25, hc26, hc27d, hc28, hc29d]
      repeat with_reducible refine and_bar (by kernel_rfl) ?_
      refine hZ _ ?_
      refine RX2_g rfl fun Z hZ => ?_
      simp only [go_sem, seval, hb1, hx2, hc8, hr18, hc19, hr25, hc26, hc27d, hc28, hc29d]
      repeat with_reducible refine and_bar (by kernel_rfl) ?_
      refine hZ _ ?_
      refine RX2_g rfl fun Z hZ => ?_
      simp only [go_sem, seval, hb1, hx2, hc8, hr18, hc19, hr25, hc26, hc27d, hc28, hc29d]
      repeat with_reducible refine and_bar (by kernel_rfl) ?_
      refine hZ _ ?_
      refine RX2_s rfl rfl fun Z hZ => ?_
      simp only [go_sem, seval, hb1, hx2, hc8, hr18, hc19, hr25, hc26, hc27d, hc28, hc29d]
      repeat with_reducible refine and_bar (by kernel_rfl) ?_
      refine hZ _ ?_
      refine RX2_s rfl rfl fun Z hZ => ?_
      simp only [go_sem, seval, hb1, hx2, hc8, hr18, hc19, hr25, hc26, hc27d, hc28, hc29d]
      repeat with_reducible refine and_bar (by kernel_rfl) ?_
      refine hZ _ ?_
      refine RX2_g rfl fun Z hZ => ?_
      simp only [go_sem, seval, hb1, hx2, hc8, hr18, hc19, hr25, hc26, hc27d, hc28, hc29d]
      repeat with_reducible refine and_bar (by kernel_rfl) ?_
      refine hZ _ ?_
      refine RX2_g rfl fun Z hZ => ?_
      simp only [go_sem, seval, hb1, hx2, hc8, hr18, hc19, hr25, hc26, hc27d, hc28, hc29d]
      repeat with_reducible refine and_bar (by kernel_rfl) ?_
      refine hZ _ ?_
      refine RX2_g rfl fun Z hZ => ?_
      simp only [go_sem, seval, hb1, hx2, hc8, hr18, hc19, hr25, hc26, hc27d, hc28, hc29d]
      repeat with_reducible refine and_bar (by kernel_rfl) ?_
      refine hZ _ ?_
      refine RX2_g rfl fun Z hZ => ?_
      simp only [go_sem, seval, hb1, hx2, hc8, hr18, hc19, hr25, hc26, hc27d, hc28, hc29d]
      repeat with_reducible refine and_bar (by kernel_rfl) ?_
      refine hZ _ ?_
      refine RX2_g rfl fun Z hZ => ?_
      simp only [go_sem, seval, hb1, hx2, hc8, hr18, hc19, hr25, hc26, hc27d, hc28, hc29d]
      repeat with_reducible refine and_bar (by kernel_rfl) ?_
      refine hZ _ ?_
      refine RX2_g rfl fun Z hZ => ?_
      simp only [go_sem, seval, hb1, hx2, hc8, hr18, hc19, hr25, hc26, hc27d, hc28, hc29d]
      repeat with_reducible refine and_bar (by kernel_rfl) ?_
      refine hZ _ ?_
      refine RX2_off rfl fun Z hZ => ?_
      simp only [go_sem, seval, hb1, hx2, hc8, hr18, hc19, hr25, hc26, hc27d, hc28, hc29d]
      repeat with_reducible refine and_bar (by kernel_rfl) ?_
      refine hZ _ ?_
      refine RX2_g rfl fun Z hZ => ?_
      simp only [go_sem, seval, hb1, hx2, hc8, hr18, hc19, hr25, hc26, hc27d, hc28, hc29d]
      repeat with_reducible refine and_bar (by kernel_rfl) ?_
      refine hZ _ ?_
      refine RX2_g rfl fun Z hZ => ?_
      simp only [go_sem, seval, hb1, hx2, hc8, hr18, hc19, hr25, hc26, hc27d, hc28, hc29d]
      repeat with_reducible refine and_bar (by kernel_rfl) ?_
      refine hZ _ ?_
      refine RX2_g rfl fun Z hZ => ?_
      simp only [go_sem, seval, hb1, hx2, hc8, hr18, hc19, hr25, hc26, hc27d, hc28, hc29d]
      repeat with_reducible refine and_bar (by kernel_rfl) ?_
      refine hZ _ ?_
      refine RX2_off rfl fun Z hZ => ?_
      simp only [go_sem, seval, hb1, hx2, hc8, hr18, hc19, hr25, hc26, hc27d, hc28, hc29d]
      repeat with_reducible refine and_bar (by kernel_rfl) ?_
      refine hZ _ ?_
      refine RX2_g rfl fun Z hZ => ?_
      simp only [go_sem, seval, hb1, hx2, hc8, hr18, hc19, hr25, hc26, hc27d, hc28, hc29d]
      repeat with_reducible refine and_bar (by kernel_rfl) ?_
      refine hZ _ ?_
      refine RX2_g rfl fun Z hZ => ?_
      simp only [go_sem, seval, hb1, hx2, hc8, hr18, hc19, hr25, hc26, hc27d, hc28, hc29d]
      repeat with_reducible refine and_bar (by kernel_rfl) ?_
      refine hZ _ ?_
      refine RX2_s rfl rfl fun Z hZ => ?_
      simp only [go_sem, seval, hb1, hx2, hc8, hr18, hc19, hr25, hc26, hc27d, hc28, hc29d]
      repeat with_reducible refine and_bar (by kernel_rfl) ?_
      refine hZ _ ?_
      refine RX2_end (by kernel_rfl) (hY _ (pp ?_))
      refine hJ24 _ true ?_ h
      refine weak_roots ?_ ?_ <;> repeat' first | exact xn | exact rn | refine xc ?_ ?_ | refine rc ?_ ?_ ?_ | rfl | simp only [go_sem, seval, Bool.or_self, List.length_set, Int.natCast_zero, Int.cast_ofNat_Int, hb1, hx2, hc8, hr18, hc19, hr25, hc26, hc27d, hc28, hc29d]
    have hc29d := decide_eq_true hc29
    first | rw [if_pos hc29] at h | rw [if_pos hc29d] at h
    refine RX2_norm fun Z hZ => ?_
    simp only [hc29d, Bool.not_true, Bool.not_false]
    refine hZ _ ?_
    refine RX2_g rfl fun Z hZ => ?_
    simp only [go_sem, seval, hb1, hx2, hc8, hr18, hc19, hr25, hc26, hc27d, hc28, hc29d]
    repeat with_reducible refine and_bar (by kernel_rfl) ?_
    refine hZ _ ?_
    refine RX2_g rfl fun Z hZ => ?_
    simp only [go_sem, seval, hb1, hx2, hc8, hr18, hc19, hr25, hc26, hc27d, hc28, hc29d]
    repeat with_reducible refine and_bar (by kernel_rfl) ?_
    refine hZ _ ?_
    refine RX2_g rfl fun Z hZ => ?_
    simp only [go_sem, seval, hb1, hx2, hc8, hr18, hc19, hr25, hc26, hc27d, hc28, hc29d]
    repeat with_reducible refine and_bar (by kernel_rfl) ?_
    refine hZ _ ?_
    refine RX2_g rfl fun Z hZ => ?_
    simp only [go_sem, seval, hb1, hx2, hc8, hr18, hc19, hr25, hc26, hc27d, hc28, hc29d]
    repeat with_reducible refine and_bar (by kernel_rfl) ?_
    refine hZ _ ?_
    refine RX2_g rfl fun Z hZ => ?_
    simp only [go_sem, seval, hb1, hx2, hc8, hr18, hc19, hr25, hc26, hc27d, hc28, hc29d]
    repeat with_reducible refine and_bar (by kernel_rfl) ?_
    refine hZ _ ?_
    refine RX2_g rfl fun Z hZ => ?_
    simp only [go_sem, seval, hb1, hx2, hc8, hr18, hc19, hr25, hc26, hc27d, hc28, hc29d]
    repeat with_reducible refine and_bar (by kernel_rfl) ?_
    refine hZ _ ?_
    refine RX2_s rfl rfl fun Z hZ => ?_
    simp only [go_sem, seval, hb1, hx2, hc8, hr18, hc19, hr25, hc26, hc27d, hc28, hc29d]
    repeat with_reducible refine and_bar (by kernel_rfl) ?_
    refine hZ _ ?_
    refine RX2_s rfl rfl fun Z hZ => ?_
    simp only [go_sem, seval, hb1, hx2, hc8, hr18, hc19, hr25, hc26, hc27d, hc28, hc29d]
    repeat with_reducible refine and_bar (by kernel_rfl) ?_
    refine hZ _ ?_
    refine RX2_guard_ndec rfl (fun hc30 => ?_) (fun hc30 => ?_)
    · have hc30d := decide_eq_false hc30
      first | rw [if_neg hc30] at h | rw [if_neg (ne_true_of_eq_false hc30d)] at h
      refine RX2_norm fun Z hZ => ?_
      simp only [hc30d, Bool.not_true, Bool.not_false]
      refine hZ _ ?_
      refine RX2_g rfl fun Z hZ => ?_
      simp only [go_sem, seval, hb1, hx2, hc8, hr18, hc19, hr25, hc26, hc27d, hc28, hc29d, hc30d]
      repeat with_reducible refine and_bar (by kernel_rfl) ?_
      refine hZ _ ?_
      refine RX2_g rfl fun Z hZ => ?_
      simp only [go_sem, seval, hb1, hx2, hc8, hr18, hc19, hr25, hc26, hc27d, hc28, hc29d, hc30d]
      repeat with_reducible refine and_bar (by kernel_rfl) ?_
      refine hZ _ ?_
      refine RX2_g rfl fun Z hZ => ?_
      simp only [go_sem, seval, hb1, hx2, hc8, hr18, hc19, hr25, hc26, hc27d, hc28, hc29d, hc30d]
      repeat with_reducible refine and_bar (by kernel_rfl) ?_
      refine hZ _ ?_
      refine RX2_g rfl fun Z hZ => ?_
      simp only [go_sem, seval, hb1, hx2, hc8, hr18, hc19, hr25, hc26, hc27d, hc28, hc29d, hc30d]
      repeat with_reducible refine and_bar (by kernel_rfl) ?_
      refine hZ _ ?_
      refine RX2_g rfl fun Z hZ => ?_
      simp only [go_sem, seval, hb1, hx2, hc8, hr18, hc19, hr25, hc26, hc27d, hc28, hc29d, hc30d]
      repeat with_reducible refine and_bar (by kernel_rfl) ?_
      refine hZ _ ?_
      refine RX2_g rfl fun Z hZ => ?_
      simp only [go_sem, seval, hb1, hx2, hc8, hr18, hc19, hr25, hc26, hc27d, hc28, hc29d, hc30d]
      repeat with_reducible refine and_bar (by kernel_rfl) ?_
      refine hZ _ ?_
      refine RX2_off rfl fun Z hZ => ?_
      simp only [go_sem, seval, hb1, hx2, hc8, hr18, hc19, hr25, hc26, hc27d, hc28, hc29d, hc30d]
      repeat with_reducible refine and_bar (by kernel_rfl) ?_
      refine hZ _ ?_
      refine RX2_g rfl fun Z hZ => ?_
      simp only [go_sem, seval, hb1, hx2, hc8, hr18, hc19, hr25, hc26, hc27d, hc28, hc29d, hc30d]
      repeat with_reducible refine and_bar (by kernel_rfl) ?_
      refine hZ _ ?_
      refine RX2_g rfl fun Z hZ => ?_
      simp only [go_sem, seval, hb1, hx2, hc8, hr18, hc19, hr25, hc26, hc27d, hc28, hc29d, hc30d]
      repeat with_reducible refine and_bar (by kernel_rfl) ?_
      refine hZ _ ?_
      refine RX2_g rfl fun Z hZ => ?_
      simp only [go_sem, seval, hb1, hx2, hc8, hr18, hc19, hr25, hc26, hc27d, hc28, hc29d, hc30d]
      repeat with_reducible refine and_bar (by kernel_rfl) ?_
      refine hZ _ ?_
      refine RX2_g rfl fun Z hZ => ?_
      simp only [go_sem, seval, hb1, hx2, hc8, hr18, hc19, hr25, hc26, hc27d, hc28, hc29d, hc30d]
      repeat with_reducible refine and_bar (by kernel_rfl) ?_
      refine hZ _ ?_
      refine RX2_off rfl fun Z hZ => ?_
      simp only [go_sem, seval, hb1, hx2, hc8, hr18, hc19, hr25, hc26, hc27d, hc28, hc29d, hc30d]
      repeat with_reducible refine and_bar (by kernel_rfl) ?_
      refine hZ _ ?_
      refine RX2_g rfl fun Z hZ => ?_
      simp only [go_sem, seval, hb1, hx2, hc8, hr18, hc19, hr25, hc26, hc27d, hc28, hc29d, hc30d]
      repeat with_reducible refine and_bar (by kernel_rfl) ?_
      refine hZ _ ?_
      refine RX2_g rfl fun Z hZ => ?_
      simp only [go_sem, seval, hb1, hx2, hc8, hr18, hc19, hr25, hc26, hc27d, hc28, hc29d, hc30d]
      repeat with_reducible refine and_bar (by kernel_rfl) ?_
      refine hZ _ ?_
      refine RX2_s rfl rfl fun Z hZ => ?_
      simp only [go_sem, seval, hb1, hx2, hc8, hr18, hc19, hr25, hc26, hc27d, hc28, hc29d, hc30d]
      repeat with_reducible refine and_bar (by kernel_rfl) ?_
      refine hZ _ ?_
      refine RX2_s rfl rfl fun Z hZ => ?_
      simp only [go_sem, seval, hb1, hx2, hc8, hr18, hc19, hr25, hc26, hc27d, hc28, hc29d, hc30d]
      repeat with_reducible refine and_bar (by kernel_rfl) ?_
      refine hZ _ ?_
      refine RX2_g rfl fun Z hZ => ?_
      simp only [go_sem, seval, hb1, hx2, hc8, hr18, hc19, hr25, hc26, hc27d, hc28, hc29d, hc30d]
      repeat with_reducible refine and_bar (by kernel_rfl) ?_
      refine hZ _ ?_
      refine RX2_g rfl fun Z hZ => ?_
      simp only [go_sem, seval, hb1, hx2, hc8, hr18, hc19, hr25, hc26, hc27d, hc28, hc29d, hc30d]
      repeat with_reducible refine and_bar (by kernel_rfl) ?_
      refine hZ _ ?_
      refine RX2_g rfl fun Z hZ => ?_
      simp only [go_sem, seval, hb1, hx2, hc8, hr18, hc19, hr25, hc26, hc27d, hc28, hc29d, hc30d]
      repeat with_reducible refine and_bar (by kernel_rfl) ?_
      refine hZ _ ?_
      refine RX2_g rfl fun Z hZ => ?_
      simp only [go_sem, seval, hb1, hx2, hc8, hr18, hc19, hr25, hc26, hc27d, hc28, hc29d, hc30d]
      repeat with_reducible refine and_bar (by kernel_rfl) ?_
      refine hZ _ ?_
      refine RX2_g rfl fun Z hZ => ?_
      simp only [go_sem, seval, hb1, hx2, hc8, hr18, hc19, hr25, hc26, hc27d, hc28, hc29d, hc30d]
      repeat with_reducible refine and_bar (by kernel_rfl) ?_
      refine hZ _ ?_
      refine RX2_g rfl fun Z hZ => ?_
      simp only [go_sem, seval, hb1, hx2, hc8, hr18, hc19, hr25, hc26, hc27d, hc28, hc29d, hc30d]
      repeat with_reducible refine and_bar (by kernel_rfl) ?_
      refine hZ _ ?_
      refine RX2_off rfl fun Z hZ => ?_
      simp only [go_sem, seval, hb1, hx2, hc8, hr18, hc19, hr25, hc26, hc27d, hc28, hc29d, hc30d]
      repeat with_reducible refine and_bar (by kernel_rfl) ?_
      refine hZ _ ?_
      refine RX2_g rfl fun Z hZ => ?_
      simp only [go_sem, seval, hb1, hx2, hc8, hr18, hc19, hr25, hc26, hc27d, hc28, hc29d, hc30d]
      repeat with_reducible refine and_bar (by kernel_rfl) ?_
      refine hZ _ ?_
      refine RX2_g rfl fun Z hZ => ?_
      simp only [go_sem, seval, hb1, hx2, hc8, hr18, hc19, hr25, hc26, hc27d, hc28, hc29d, hc30d]
      repeat with_reducible refine and_bar (by kernel_rfl) ?_
      refine hZ _ ?_
      refine RX2_g rfl fun Z hZ => ?_
      simp only [go_sem, seval, hb1, hx2, hc8, hr18, hc19, hr25, hc26, hc27d, hc28, hc29d, hc30d]
      repeat with_reducible refine and_bar (by kernel_rfl) ?_
      refine hZ _ ?_
      refine RX2_off rfl fun Z hZ => ?_
      simp only [go_sem, seval, hb1, hx2, hc8, hr18, hc19, hr25, hc26, hc27d, hc28, hc29d, hc30d]
      repeat with_reducible refine and_bar (by kernel_rfl) ?_
      refine hZ _ ?_
      refine RX2_g rfl fun Z hZ => ?_
      simp only [go_sem, seval, hb1, hx2, hc8, hr18, hc19, hr25, hc26, hc27d, hc28, hc29d, hc30d]
      repeat with_reducible refine and_bar (by kernel_rfl) ?_
      refine hZ _ ?_
      refine RX2_g rfl fun Z hZ => ?_
      simp only [go_sem, seval, hb1, hx2, hc8, hr18, hc19, hr25, hc26, hc27d, hc28, hc29d, hc30d]
      repeat with_reducible refine and_bar (by kernel_rfl) ?_
      refine hZ _ ?_
      refine RX2_s rfl rfl fun Z hZ => ?_
      simp only [go_sem, seval, hb1, hx2, hc8, hr18, hc19, hr25, hc26, hc27d, hc28, hc29d, hc30d]
      repeat with_reducible refine and_bar (by kernel_rfl) ?_
      refine hZ _ ?_
      refine RX2_end (by kernel_rfl) (hY _ (pp ?_))
      refine hJ24 _ true ?_ h
      refine weak_roots ?_ ?_ <;> repeat' first | exact xn | exact rn | refine xc ?_ ?_ | refine rc ?_ ?_ ?_ | rfl | simp only [go_sem, seval, Bool.or_self, List.length_set, Int.natCast_zero, Int.cast_ofNat_Int, hb1, hx2, hc8, hr18, hc19, hr25, hc26, hc27d, hc28, hc29d, hc30d]
    have hc30d := decide_eq_true hc30
    first | rw [if_pos hc30] at h | rw [if_pos hc30d] at h
    refine RX2_norm fun Z hZ => ?_
    simp only [hc30d, Bool.not_true, Bool.not_false]
    refine hZ _ ?_
    first | obtain ⟨ha31, h⟩ := apn_some h | (obtain ⟨ha31, h⟩ := apx_some h; rw [List.nil_append] at h)
    simp only [List.length_append, List.length_cons, List.length_nil, Nat.zero_add, Nat.add_zero, Nat.reduceAdd] at ha31
    obtain ⟨ha32, h⟩ := apx_some h
    simp only [List.length_append, List.length_cons, List.length_nil, Nat.zero_add, Nat.add_zero, Nat.reduceAdd] at ha32
    obtain ⟨r32, hr33, h⟩ := Option.bind_eq_some_iff.1 h
    refine RX2_g rfl fun Z hZ => ?_
    simp only [go_sem, seval, hb1, hx2, hc8, hr18, hc19, hr25, hc26, hc27d, hc28, hc29d, hc30d, ha31, ha32, hr33]
    repeat with_reducible refine and_bar (by kernel_rfl) ?_
    refine hZ _ ?_
    refine RX2_g rfl fun Z hZ => ?_
    simp only [go_sem, seval, hb1, hx2, hc8, hr18, hc19, hr25, hc26, hc27d, hc28, hc29d, hc30d, ha31, ha32, hr33]
    repeat with_reducible refine and_bar (by kernel_rfl) ?_
    refine hZ _ ?_
    refine RX2_g rfl fun Z hZ => ?_
    simp only [go_sem, seval, hb1, hx2, hc8, hr18, hc19, hr25, hc26, hc27d, hc28, hc29d, hc30d, ha31, ha32, hr33]
    repeat with_reducible refine and_bar (by kernel_rfl) ?_
    refine hZ _ ?_
    refine RX2_g rfl fun Z hZ => ?_
    simp only [go_sem, seval, hb1, hx2, hc8, hr18, hc19, hr25, hc26, hc27d, hc28, hc29d, hc30d, ha31, ha32, hr33]
    repeat with_reducible refine and_bar (by kernel_rfl) ?_
    refine hZ _ ?_
    refine RX2_g rfl fun Z hZ => ?_
    simp only [go_sem, seval, hb1, hx2, hc8, hr18, hc19, hr25, hc26, hc27d, hc28, hc29d, hc30d, ha31, ha32, hr33]
    repeat with_reducible refine and_bar (by kernel_rfl) ?_
    refine hZ _ ?_
    refine RX2_g rfl fun Z hZ => ?_
    simp only [go_sem, seval, hb1, hx2, hc8, hr18, hc19, hr25, hc26, hc27d, hc28, hc29d, hc30d, ha31, ha32, hr33]
    repeat with_reducible refine and_bar (by kernel_rfl) ?_
    refine hZ _ ?_
    refine RX2_ag rfl fun Z hZ => ?_
    simp only [go_sem, seval, hb1, hx2, hc8, hr18, hc19, hr25, hc26, hc27d, hc28, hc29d, hc30d, ha31, ha32, hr33]
    repeat with_reducible refine and_bar (by kernel_rfl) ?_
    refine hZ _ ?_
    refine RX2_g rfl fun Z hZ => ?_
    simp only [go_sem, seval, hb1, hx2, hc8, hr18, hc19, hr25, hc26, hc27d, hc28, hc29d, hc30d, ha31, ha32, hr33]
    repeat with_reducible refine and_bar (by kernel_rfl) ?_
    refine hZ _ ?_
    refine RX2_g rfl fun Z hZ => ?_
    simp only [go_sem, seval, hb1, hx2, hc8, hr18, hc19, hr25, hc26, hc27d, hc28, hc29d, hc30d, ha31, ha32, hr33]
    repeat with_reducible refine and_bar (by kernel_rfl) ?_
    refine hZ _ ?_
    refine RX2_g rfl fun Z hZ => ?_
    simp only [go_sem, seval, hb1, hx2, hc8, hr18, hc19, hr25, hc26, hc27d, hc28, hc29d, hc30d, ha31, ha32, hr33]
    repeat with_reducible refine and_bar (by kernel_rfl) ?_
    refine hZ _ ?_
    refine RX2_g rfl fun Z hZ => ?_
    simp only [go_sem, seval, hb1, hx2, hc8, hr18, hc19, hr25, hc26, hc27d, hc28, hc29d, hc30d, ha31, ha32, hr33]
    repeat with_reducible refine and_bar (by kernel_rfl) ?_
    refine hZ _ ?_
    refine RX2_ag rfl fun Z hZ => ?_
    simp only [go_sem, seval, hb1, hx2, hc8, hr18, hc19, hr25, hc26, hc27d, hc28, hc29d, hc30d, ha31, ha32, hr33]
    repeat with_reducible refine and_bar (by kernel_rfl) ?_
    refine hZ _ ?_
    refine RX2_g rfl fun Z hZ => ?_
    simp only [go_sem, seval, hb1, hx2, hc8, hr18, hc19, hr25, hc26, hc27d, hc28, hc29d, hc30d, ha31, ha32, hr33]
    repeat with_reducible refine and_bar (by kernel_rfl) ?_
    refine hZ _ ?_
    refine RX2_g rfl fun Z hZ => ?_
    simp only [go_sem, seval, hb1, hx2, hc8, hr18, hc19, hr25, hc26, hc27d, hc28, hc29d, hc30d, ha31, ha32, hr33]
    repeat with_reducible refine and_bar (by kernel_rfl) ?_
    refine hZ _ ?_
    refine RX2_s rfl rfl fun Z hZ => ?_
    simp only [go_sem, seval, hb1, hx2, hc8, hr18, hc19, hr25, hc26, hc27d, hc28, hc29d, hc30d, ha31, ha32, hr33]
    repeat with_reducible refine and_bar (by kernel_rfl) ?_
    refine hZ _ ?_
    refine RX2_s rfl rfl fun Z hZ => ?_
    simp only [go_sem, seval, hb1, hx2, hc8, hr18, hc19, hr25, hc26, hc27d, hc28, hc29d, hc30d, ha31, ha32, hr33]
    repeat with_reducible refine and_bar (by kernel_rfl) ?_
    refine hZ _ ?_
    refine RX2_guard_nbool rfl (fun hc34 => ?_) (fun hc34 => ?_)
    · rw [if_neg (ne_true_of_eq_false hc34)] at h
      refine RX2_norm fun Z hZ => ?_
      simp only [hc34, Bool.not_true, Bool.not_false]
      refine hZ _ ?_
      refine RX2_g rfl fun Z hZ => ?_
      simp only [go_sem, seval, hb1, hx2, hc8, hr18, hc19, hr25, hc26, hc27d, hc28, hc29d, hc30d, ha31, ha32, hr33, hc34]
      repeat with_reducible refine and_bar (by kernel_rfl) ?_
      refine hZ _ ?_
      refine RX2_g rfl fun Z hZ => ?_
      simp only [go_sem, seval, hb1, hx2, hc8, hr18, hc19, hr25, hc26, hc27d, hc28, hc29d, hc30d, ha31, ha32, hr33, hc34]
      repeat with_reducible refine and_bar (by kernel_rfl) ?_
      refine hZ _ ?_
      refine RX2_g rfl fun Z hZ => ?_
      simp only [go_sem, seval, hb1, hx2, hc8, hr18, hc19, hr25, hc26, hc27d, hc28, hc29d, hc30d, ha31, ha32, hr33, hc34]
      repeat with_reducible refine and_bar (by kernel_rfl) ?_
      refine hZ _ ?_
      refine RX2_g rfl fun Z hZ => ?_
      simp only [go_sem, seval, hb1, hx2, hc8, hr18, hc19, hr25, hc26, hc27d, hc28, hc29d, hc30d, ha31, ha32, hr33, hc34]
      repeat with_reducible refine and_bar (by kernel_rfl) ?_
      refine hZ _ ?_
      refine RX2_g rfl fun Z hZ => ?_
      simp only [go_sem, seval, hb1, hx2, hc8, hr18, hc19, hr25, hc26, hc27d, hc28, hc29d, hc30d, ha31, ha32, hr33, hc34]
      repeat with_reducible refine and_bar (by kernel_rfl) ?_
      refine hZ _ ?_
      refine RX2_g rfl fun Z hZ => ?_
      simp only [go_sem, seval, hb1, hx2, hc8, hr18, hc19, hr25, hc26, hc27d, hc28, hc29d, hc30d, ha31, ha32, hr33, hc34]
      repeat with_reducible refine and_bar (by kernel_rfl) ?_
      refine hZ _ ?_
      refine RX2_off rfl fun Z hZ => ?_
      simp only [go_sem, seval, hb1, hx2, hc8, hr18, hc19, hr25, hc26, hc27d, hc28, hc29d, hc30d, ha31, ha32, hr33, hc34]
      repeat with_reducible refine and_bar (by kernel_rfl) ?_
      refine hZ _ ?_
      refine RX2_g rfl fun Z hZ => ?_
      simp only [go_sem, seval, hb1, hx2, hc8, hr18, hc19, hr25, hc26, hc27d, hc28, hc29d, hc30d, ha31, ha32, hr33, hc34]
      repeat with_reducible refine and_bar (by kernel_rfl) ?_
      refine hZ _ ?_
      refine RX2_g rfl fun Z hZ => ?_
      simp only [go_sem, seval, hb1, hx2, hc8, hr18, hc19, hr25, hc26, hc27d, hc28, hc29d, hc30d, ha31, ha32, hr33, hc34]
      repeat with_reducible refine and_bar (by kernel_rfl) ?_
      refine hZ _ ?_
      refine RX2_g rfl fun Z hZ => ?_
      simp only [go_sem, seval, hb1, hx2, hc8, hr18, hc19, hr25, hc26, hc27d, hc28, hc29d, hc30d, ha31, ha32, hr33, hc34]
      repeat with_reducible refine and_bar (by kernel_rfl) ?_
      refine hZ _ ?_
      refine RX2_off rfl fun Z hZ => ?_
      simp only [go_sem, seval, hb1, hx2, hc8, hr18, hc19, hr25, hc26, hc27d, hc28, hc29d, hc30d, ha31, ha32, hr33, hc34]
      repeat with_reducible refine and_bar (by kernel_rfl) ?_
      refine hZ _ ?_
      refine RX2_g rfl fun Z hZ => ?_
      simp only [go_sem, seval, hb1, hx2, hc8, hr18, hc19, hr25, hc26, hc27d, hc28, hc29d, hc30d, ha31, ha32, hr33, hc34]
      repeat with_reducible refine and_bar (by kernel_rfl) ?_
      refine hZ _ ?_
      refine RX2_g rfl fun Z hZ => ?_
      simp only [go_sem, seval, hb1, hx2, hc8, hr18, hc19, hr25, hc26, hc27d, hc28, hc29d, hc30d, ha31, ha32, hr33, hc34]
      repeat with_reducible refine and_bar (by kernel_rfl) ?_
      refine hZ _ ?_
      refine RX2_s rfl rfl fun Z hZ => ?_
      simp only [go_sem, seval, hb1, hx2, hc8, hr18, hc19, hr25, hc26, hc27d, hc28, hc29d, hc30d, ha31, ha32, hr33, hc34]
      repeat with_reducible refine and_bar (by kernel_rfl) ?_
      refine hZ _ ?_
      refine RX2_end (by kernel_rfl) (hY _ (pp ?_))
      refine hJ24 _ true ?_ h
      refine weak_roots ?_ ?_ <;> repeat' first | exact xn | exact rn | refine xc ?_ ?_ | refine rc ?_ ?_ ?_ | rfl | simp only [go_sem, seval, Bool.or_self, List.length_set, Int.natCast_zero, Int.cast_ofNat_Int, hb1, hx2, hc8, hr18, hc19, hr25, hc26, hc27d, hc28, hc29d, hc30d, ha31, ha32, hr33, hc34]
    rw [if_pos hc34] at h
    refine RX2_norm fun Z hZ => ?_
    simp only [hc34, Bool.not_true, Bool.not_false]
    refine hZ _ ?_
    first | obtain ⟨ha35, h⟩ := apn_some h | (obtain ⟨ha35, h⟩ := apx_some h; rw [List.nil_append] at h)
    simp only [List.length_append, List.length_cons, List.length_nil, Nat.zero_add, Nat.add_zero, Nat.reduceAdd] at ha35
    obtain ⟨ha36, h⟩ := apx_some h
    simp only [List.length_append, List.length_cons, List.length_nil, Nat.zero_add, Nat.add_zero, Nat.reduceAdd] at ha36
    obtain ⟨r33, hr37, h⟩ := Option.bind_eq_some_iff.1 h
    refine RX2_g rfl fun Z hZ => ?_
    simp only [go_sem, seval, hb1, hx2, hc8, hr18, hc19, hr25, hc26, hc27d, hc28, hc29d, hc30d, ha31, ha32, hr33, hc34, ha35, ha36, hr37]
    repeat with_reducible refine and_bar (by kernel_rfl) ?_
    refine hZ _ ?_
    refine RX2_g rfl fun Z hZ => ?_
    simp only [go_sem, seval, hb1, hx2, hc8, hr18, hc19, hr25, hc26, hc27d, hc28, hc29d, hc30d, ha31, ha32, hr33, hc34, ha35, ha36, hr37]
    repeat with_reducible refine and_bar (by kernel_rfl) ?_
    refine hZ _ ?_
    refine RX2_g rfl fun Z hZ => ?_
    simp only [go_sem, seval, hb1, hx2, hc8, hr18, hc19, hr25, hc26, hc27d, hc28, hc29d, hc30d, ha31, ha32, hr33, hc34, ha35, ha36, hr37]
    repeat with_reducible refine and_bar (by kernel_rfl) ?_
    refine hZ _ ?_
    refine RX2_g rfl fun Z hZ => ?_
    simp only [go_sem, seval, hb1, hx2, hc8, hr18, hc19, hr25, hc26, hc27d, hc28, hc29d, hc30d, ha31, ha32, hr33, hc34, ha35, ha36, hr37]
    repeat with_reducible refine and_bar (by kernel_rfl) ?_
    refine hZ _ ?_
    refine RX2_g rfl fun Z hZ => ?_
    simp only [go_sem, seval, hb1, hx2, hc8, hr18, hc19, hr25, hc26, hc27d, hc28, hc29d, hc30d, ha31, ha32, hr33, hc34, ha35, ha36, hr37]
    repeat with_reducible refine and_bar (by kernel_rfl) ?_
    refine hZ _ ?_
    refine RX2_g rfl fun Z hZ => ?_
    simp only [go_sem, seval, hb1, hx2, hc8, hr18, hc19, hr25, hc26, hc27d, hc28, hc29d, hc30d, ha31, ha32, hr33, hc34, ha35, ha36, hr37]
    repeat with_reducible refine and_bar (by kernel_rfl) ?_
    refine hZ _ ?_
    refine RX2_ag rfl fun Z hZ => ?_
    simp only [go_sem, seval, hb1, hx2, hc8, hr18, hc19, hr25, hc26, hc27d, hc28, hc29d, hc30d, ha31, ha32, hr33, hc34, ha35, ha36, hr37]
    repeat with_reducible refine and_bar (by kernel_rfl) ?_
    refine hZ _ ?_
    refine RX2_g rfl fun Z hZ => ?_
    simp only [go_sem, seval, hb1, hx2, hc8, hr18, hc19, hr25, hc26, hc27d, hc28, hc29d, hc30d, ha31, ha32, hr33, hc34, ha35, ha36, hr37]
    repeat with_reducible refine and_bar (by kernel_rfl) ?_
    refine hZ _ ?_
    refine RX2_g rfl fun Z hZ => ?_
    simp only [go_sem, seval, hb1, hx2, hc8, hr18, hc19, hr25, hc26, hc27d, hc28, hc29d, hc30d, ha31, ha32, hr33, hc34, ha35, ha36, hr37]
    repeat with_reducible refine and_bar (by kernel_rfl) ?_
    refine hZ _ ?_
    refine RX2_g rfl fun Z hZ => ?_
    simp only [go_sem, seval, hb1, hx2, hc8, hr18, hc19, hr25, hc26, hc27d, hc28, hc29d, hc30d, ha31, ha32, hr33, hc34, ha35, ha36, hr37]
    repeat with_reducible refine and_bar (by kernel_rfl) ?_
    refine hZ _ ?_
    refine RX2_ag rfl fun Z hZ => ?_
    simp only [go_sem, seval, hb1, hx2, hc8, hr18, hc19, hr25, hc26, hc27d, hc28, hc29d, hc30d, ha31, ha32, hr33, hc34, ha35, ha36, hr37]
    repeat with_reducible refine and_bar (by kernel_rfl) ?_
    refine hZ _ ?_
    refine RX2_g rfl fun Z hZ => ?_
    simp only [go_sem, seval, hb1, hx2, hc8, hr18, hc19, hr25, hc26, hc27d, hc28, hc29d, hc30d, ha31, ha32, hr33, hc34, ha35, ha36, hr37]
    repeat with_reducible refine and_bar (by kernel_rfl) ?_
    refine hZ _ ?_
    refine RX2_g rfl fun Z hZ => ?_
    simp only [go_sem, seval, hb1, hx2, hc8, hr18, hc19, hr25, hc26, hc27d, hc28, hc29d, hc30d, ha31, ha32, hr33, hc34, ha35, ha36, hr37]
    repeat with_reducible refine and_bar (by kernel_rfl) ?_
    refine hZ _ ?_
    refine RX2_s rfl rfl fun Z hZ => ?_
    simp only [go_sem, seval, hb1, hx2, hc8, hr18, hc19, hr25, hc26, hc27d, hc28, hc29d, hc30d, ha31, ha32, hr33, hc34, ha35, ha36, hr37]
    repeat with_reducible refine and_bar (by kernel_rfl) ?_
    refine hZ _ ?_
    refine RX2_end (by kernel_rfl) (hY _ (pp ?_))
    refine hJ24 _ (!r33) ?_ h
    refine weak_roots ?_ ?_ <;> repeat' first | exact xn | exact rn | refine xc ?_ ?_ | refine rc ?_ ?_ ?_ | rfl | simp only [go_sem, seval, Bool.or_self, List.length_set, Int.natCast_zero, Int.cast_ofNat_Int, hb1, hx2, hc8, hr18, hc19, hr25, hc26, hc27d, hc28, hc29d, hc30d, ha31, ha32, hr33, hc34, ha35, ha36, hr37]
  intro c30 h
  unfold ref24_turn_J3 at h
  refine Wk_cond_bool rfl (fun hc38 => ?_) (fun hc38 => ?_)
  · rw [if_pos hc38] at h
    refine Wk_seq (Wk_regionZ fun Z hZ => ?_)
    simp only [go_sem, seval, hb1, hx2, hc8, hr18, hc19, hc38]
    refine hZ _ (pp ?_)
    refine Wk_ret (pp ?_)
    cases h
    simp only [go_sem, seval, hb1, hx2, hc8, hr18, hc19, hc38]
    exact ⟨_, rfl, RokI.h, PureI.h⟩
  rw [if_neg (ne_true_of_eq_false hc38)] at h
  refine Wk_skip (pp ?_)
  unfold ref24_turn_J4 at h
  refine Wk_seq (Wk_seq (Wk_regionZ fun Z hZ => ?_))
  simp only [go_sem, seval, hb1, hx2, hc8, hr18, hc19, hc38]
  refine hZ _ (pp ?_)
  refine Wk_cond_nbool rfl (fun hc39 => ?_) (fun hc39 => ?_)
  · rw [if_neg (ne_true_of_eq_false hc39)] at h
    refine Wk_seq ?_
    obtain ⟨r34, hr40, h⟩ := Option.bind_eq_some_iff.1 h
    refine Wk_regionZ fun Z hZ => ?_
    simp only [go_sem, seval, hb1, hx2, hc8, hr18, hc19, hc38, hc39, hr40]
    refine hZ _ (pp ?_)
    refine Wk_ret (pp ?_)
    cases h
    simp only [go_sem, seval, hb1, hx2, hc8, hr18, hc19, hc38, hc39, hr40]
    exact ⟨_, rfl, RokI.h, PureI.h⟩
  rw [if_pos hc39] at h
  refine Wk_skip (pp ?_)
  refine Wk_seq (Wk_regionZ fun Z hZ => ?_)
  simp only [go_sem, seval, hb1, hx2, hc8, hr18, hc19, hc38, hc39]
  refine sw (RX_guard_bool rfl) (fun hc41 => ?_) (fun hc41 => ?_)
  · rw [if_neg (ne_true_of_eq_false hc41)] at h
    simp only [go_sem, seval, hb1, hx2, hc8, hr18, hc19, hc38, hc39, hc41]
    refine hZ _ (pp ?_)
    refine Wk_ret (pp ?_)
    cases h
    simp only [go_sem, seval, hb1, hx2, hc8, hr18, hc19, hc38, hc39, hc41]
    exact ⟨_, rfl, RokI.h, PureI.h⟩
  rw [if_pos hc41] at h
  obtain ⟨r35, hr42, h⟩ := Option.bind_eq_some_iff.1 h
  simp only [go_sem, seval, hb1, hx2, hc8, hr18, hc19, hc38, hc39, hc41, hr42]
  refine RX_guard_bool rfl (fun hc43 => ?_) (fun hc43 => ?_)
  · rw [if_pos hc43] at h
    obtain ⟨r36, hr44, h⟩ := Option.bind_eq_some_iff.1 h
    simp only [go_sem, seval, hb1, hx2, hc8, hr18, hc19, hc38, hc39, hc41, hr42, hc43, hr44]
    refine hZ _ (pp ?_)
    refine Wk_ret (pp ?_)
    cases h
    simp only [go_sem, seval, hb1, hx2, hc8, hr18, hc19, hc38, hc39, hc41, hr42, hc43, hr44]
    exact ⟨_, rfl, RokI.h, PureI.h⟩
  rw [if_neg (ne_true_of_eq_false hc43)] at h
  simp only [go_sem, seval, hb1, hx2, hc8, hr18, hc19, hc38, hc39, hc41, hr42, hc43]
  refine hZ _ (pp ?_)
  refine Wk_ret (pp ?_)
  cases h
  simp only [go_sem, seval, hb1, hx2, hc8, hr18, hc19, hc38, hc39, hc41, hr42, hc43]
  exact ⟨_, rfl, RokI.h, PureI.h⟩
def fs_ref24_turn (N : Nat) : FnS := { own := [], pure := true, fn := fun cs => match cs with
  | [c0, c1] => (Actor.decA c0).bind fun qc0 => ((decI .i64) c1).bind fun qc1 => (ref24_turn N qc0 qc1).map fun r => .val (.bool r)
  | _ => none }
attribute [go_sem] fs_ref24_turn
theorem fs_ref24_turn_ok (N : Nat) : FSOk Try.prog 58 (fs_ref24_turn N) := by
  refine ⟨fun cs r h => ?_, fun h => by cases h⟩
  simp only [fs_ref24_turn] at h
  split at h
  · simp only [Option.bind_eq_some_iff, Option.map_eq_some_iff] at h
    obtain ⟨q0, h0, q1, h1, r', hr, rfl⟩ := h
    exact ((w_ref24_turn N q0 q1 r' hr).args (LeL.cons (Actor.decA_le h0) (LeL.cons (decI_le h1) (LeL.nil))))
  · cases h


noncomputable def G_ref24_Valid (N d f : Nat) : Option FnS := glist [(6, 46, fs_ref14_ValidRef N), (33, 58, fs_ref24_turn N)] d f
attribute [go_sem] G_ref24_Valid
set_option maxHeartbeats 40000000 in
theorem w_ref24_Valid (N : Nat) (a0 : Actor) (r : Bool) (h : ref24_Valid N a0 = some r) : Con Try.prog 16 [] true [.agg (Actor.row a0)] (.val (.bool r)) := by
  refine fun_ok4 (G := (G_ref24_Valid N)) Try.func16 rfl (by decide) (by kernel_rfl) (gc 6 (fs_ref14_ValidRef_ok N) (gc 33 (fs_ref24_turn_ok N) gn)) [] mix (Nat.le_of_ble_eq_true rfl) ?_
  simp only [Try.f16]
  unfold ref24_Valid at h
  refine Wk_seq (Wk_regionZ fun Z hZ => ?_)
  simp only [go_sem, seval]
  refine hZ _ (pp ?_)
  refine Wk_seq ?_
  apply Wk_join1 (fun (c5 : Bool) => ⟨tab 35 (updT (updT deadT 1 (.pref 1 [] 0 0)) 23 (.val (.bool c5))), (upd RZ 1 (.sl true none 4 (some 1) [Actor.row a0]))⟩)
  · intro hJ1
    obtain ⟨r6, hr2, h⟩ := Option.bind_eq_some_iff.1 h
    refine Wk_regionZ fun Z hZ => ?_
    simp only [go_sem, seval, hr2]
    refine RX_guard_nbool rfl (fun hc3 => ?_) (fun hc3 => ?_)
    · rw [if_neg (ne_true_of_eq_false hc3)] at h
      simp only [go_sem, seval, hr2, hc3]
      refine hZ _ (pp ?_)
      refine hJ1 _ true ?_ h
      refine weak_roots ?_ ?_ <;> repeat' first | exact xn | exact rn | refine xc ?_ ?_ | refine rc ?_ ?_ ?_ | rfl | simp only [go_sem, seval, Bool.or_self, List.length_set, Int.natCast_zero, Int.cast_ofNat_Int, hr2, hc3]
    rw [if_pos hc3] at h
    simp only [go_sem, seval, hr2, hc3]
    refine RX_guard_dec rfl (fun hc4 => ?_) (fun hc4 => ?_)
    · have hc4d := decide_eq_true hc4
      first | rw [if_pos hc4] at h | rw [if_pos hc4d] at h
      simp only [go_sem, seval, hr2, hc3, hc4d]
      refine hZ _ (pp ?_)
      refine hJ1 _ true ?_ h
      refine weak_roots ?_ ?_ <;> repeat' first | exact xn | exact rn | refine xc ?_ ?_ | refine rc ?_ ?_ ?_ | rfl | simp only [go_sem, seval, Bool.or_self, List.length_set, Int.natCast_zero, Int.cast_ofNat_Int, hr2, hc3, hc4d]
    have hc4d := decide_eq_false hc4
    first | rw [if_neg hc4] at h | rw [if_neg (ne_true_of_eq_false hc4d)] at h
    simp only [go_sem, seval, hr2, hc3, hc4d]
    refine RX_guard_dec rfl (fun hc5 => ?_) (fun hc5 => ?_)
    · have hc5d := decide_eq_true hc5
      first | rw [if_pos hc5] at h | rw [if_pos hc5d] at h
      simp only [go_sem, seval, hr2, hc3, hc4d, hc5d]
      refine hZ _ (pp ?_)
      refine hJ1 _ true ?_ h
      refine weak_roots ?_ ?_ <;> repeat' first | exact xn | exact rn | refine xc ?_ ?_ | refine rc ?_ ?_ ?_ | rfl | simp only [go_sem, seval, Bool.or_self, List.length_set, Int.natCast_zero, Int.cast_ofNat_Int, hr2, hc3, hc4d, hc5d]
    have hc5d := decide_eq_false hc5
    first | rw [if_neg hc5] at h | rw [if_neg (ne_true_of_eq_false hc5d)] at h
    simp only [go_sem, seval, hr2, hc3, hc4d, hc5d]
    refine hZ _ (pp ?_)
    refine hJ1 _ (decide (9 < ((a0.Stack.length : Nat) : Int))) ?_ h
    refine weak_roots ?_ ?_ <;> repeat' first | exact xn | exact rn | refine xc ?_ ?_ | refine rc ?_ ?_ ?_ | rfl | simp only [go_sem, seval, Bool.or_self, List.length_set, Int.natCast_zero, Int.cast_ofNat_Int, hr2, hc3, hc4d, hc5d]
  intro c5 h
  unfold ref24_Valid_J1 at h
  refine Wk_cond_bool rfl (fun hc6 => ?_) (fun hc6 => ?_)
  · rw [if_pos hc6] at h
    refine Wk_seq (Wk_regionZ fun Z hZ => ?_)
    simp only [go_sem, seval, hc6]
    refine hZ _ (pp ?_)
    refine Wk_ret (pp ?_)
    cases h
    simp only [go_sem, seval, hc6]
    exact ⟨_, rfl, RokI.h, PureI.h⟩
  rw [if_neg (ne_true_of_eq_false hc6)] at h
  refine Wk_skip (pp ?_)
  unfold ref24_Valid_J2 at h
  refine Wk_seq (Wk_seq (Wk_regionZ fun Z hZ => ?_))
  simp only [go_sem, seval, hc6]
  refine hZ _ (pp ?_)
  refine Wk_block (Wk_real fun hreal8 => ?_)
  have hl7 := hreal8.cell 1 3 (by simp only [go_sem, seval, Bool.or_self, List.length_set, Int.natCast_zero, Int.cast_ofNat_Int, hc6]; rfl) rfl
  rw [List.length_map] at hl7
  refine Wk_count (fun (v6 : Nat) (b : Unit) => ⟨tab 35 (updT (updT deadT 1 (.pref 1 [] 0 0)) 3 (.val (.int .i64 ((v6 : Nat) : Int)))), (upd RZ 1 (.sl true none 4 (some 1) [Actor.row a0]))⟩) () h ?_ ?_
  · refine weak_roots ?_ ?_ <;> repeat' first | exact xn | exact rn | refine xc ?_ ?_ | refine rc ?_ ?_ ?_ | rfl | simp only [go_sem, seval, Bool.or_self, List.length_set, Int.natCast_zero, Int.cast_ofNat_Int, hc6]
  rintro v6 ⟨⟩ _ h -
  rcases (count_cases a0.Stack.length v6).symm with ⟨hi9', hd12⟩ | ⟨hi9', hd12⟩
  · rw [hd12] at h
    simp only [ref24_Valid_L1] at h
    refine Wk_seq (Wk_seq (Wk_regionZ fun Z hZ => ?_))
    simp only [go_sem, seval, hc6, hi9']
    refine hZ _ (pp ?_)
    try simp only [Int.ofNat_lt, hi9', if_true, if_false] at h
    refine Wk_cond_f rfl (Wk_exit (pp ?_))
    refine Wk_seq (Wk_regionZ fun Z hZ => ?_)
    simp only [go_sem, seval, hc6, hi9']
    refine hZ _ (pp ?_)
    refine Wk_ret (pp ?_)
    cases h
    simp only [go_sem, seval, hc6, hi9']
    exact ⟨_, rfl, RokI.h, PureI.h⟩
  rw [hd12] at h
  simp only [ref24_Valid_L1] at h
  have hw11 := wrap_succ hi9' hl7
  refine Wk_seq (Wk_seq (Wk_regionZ fun Z hZ => ?_))
  simp only [go_sem, seval, hc6, hi9', hw11]
  refine hZ _ (pp ?_)
  try simp only [Int.ofNat_lt, hi9', if_true, if_false] at h
  refine Wk_cond_t rfl (Wk_skip (pp ?_))
  refine Wk_seq (Wk_block (Wk_seq ?_))
  obtain ⟨r7, hr13, h⟩ := Option.bind_eq_some_iff.1 h
  refine Wk_regionZ fun Z hZ => ?_
  simp only [go_sem, seval, hc6, hi9', hw11, hr13]
  refine hZ _ (pp ?_)
  refine Wk_cond_nbool rfl (fun hc14 => ?_) (fun hc14 => ?_)
  · rw [if_neg (ne_true_of_eq_false hc14)] at h
    refine Wk_seq (Wk_regionZ fun Z hZ => ?_)
    simp only [go_sem, seval, hc6, hi9', hw11, hr13, hc14]
    refine hZ _ (pp ?_)
    refine Wk_ret (pp ?_)
    cases h
    simp only [go_sem, seval, hc6, hi9', hw11, hr13, hc14]
    exact ⟨_, rfl, RokI.h, PureI.h⟩
  rw [if_pos hc14] at h
  refine Wk_skip (pp ?_)
  refine Wk_regionZ fun Z hZ => ?_
  simp only [go_sem, seval, hc6, hi9', hw11, hr13, hc14]
  refine hZ _ (pp ?_)
  first | refine ⟨(), ?_, h⟩ | refine ⟨hi9', (), ?_, h⟩
  refine weak_roots ?_ ?_ <;> repeat' first | exact xn | exact rn | refine xc ?_ ?_ | refine rc ?_ ?_ ?_ | rfl | simp only [go_sem, seval, Bool.or_self, List.length_set, Int.natCast_zero, Int.cast_ofNat_Int, hc6, hi9', hw11, hr13, hc14]
def fs_ref24_Valid (N : Nat) : FnS := { own := [], pure := true, fn := fun cs => match cs with
  | [c0] => (Actor.decA c0).bind fun qc0 => (ref24_Valid N qc0).map fun r => .val (.bool r)
  | _ => none }
attribute [go_sem] fs_ref24_Valid
theorem fs_ref24_Valid_ok (N : Nat) : FSOk Try.prog 16 (fs_ref24_Valid N) := by
  refine ⟨fun cs r h => ?_, fun h => by cases h⟩
  simp only [fs_ref24_Valid] at h
  split at h
  · simp only [Option.bind_eq_some_iff, Option.map_eq_some_iff] at h
    obtain ⟨q0, h0, r', hr, rfl⟩ := h
    exact ((w_ref24_Valid N q0 r' hr).args (LeL.cons (Actor.decA_le h0) (LeL.nil)))
  · cases h


set_option maxHeartbeats 40000000 in
theorem w_ref24_top (N : Nat) (a0 : Actor) (r : Turn × Bool) (h : ref24_top N a0 = some r) : Con Try.prog 52 [] false [.agg (Actor.row a0)] (.tup [.agg (Turn.row r.1), .val (.bool r.2)]) := by
  refine fun_ok4 (G := (glist [])) Try.func52 rfl (by decide) (by kernel_rfl) gn [] mix (Nat.le_of_ble_eq_true rfl) ?_
  simp only [Try.f52]
  unfold ref24_top at h
  refine Wk_seq (Wk_regionZ fun Z hZ => ?_)
  simp only [go_sem, seval]
  refine hZ _ (pp ?_)
  refine Wk_seq (Wk_seq (Wk_regionZ fun Z hZ => ?_))
  simp only [go_sem, seval]
  refine hZ _ (pp ?_)
  refine Wk_cond_dec rfl (fun hc1 => ?_) (fun hc1 => ?_)
  · have hc1d := decide_eq_true hc1
    first | rw [if_pos hc1] at h | rw [if_pos hc1d] at h
    refine Wk_seq (Wk_regionZ fun Z hZ => ?_)
    simp only [go_sem, seval, hc1d]
    refine hZ _ (pp ?_)
    refine Wk_ret (pp ?_)
    cases h
    simp only [go_sem, seval, hc1d]
    exact ⟨_, rfl, RokI.h⟩
  have hc1d := decide_eq_false hc1
  first | rw [if_neg hc1] at h | rw [if_neg (ne_true_of_eq_false hc1d)] at h
  refine Wk_skip (pp ?_)
  refine Wk_seq ?_
  obtain ⟨x1, hb2, hx3, h⟩ := gx_some h
  refine Wk_regionZ fun Z hZ => ?_
  simp only [go_sem, seval, hc1d, hb2, hx3]
  refine hZ _ (pp ?_)
  refine Wk_ret (pp ?_)
  cases h
  simp only [go_sem, seval, hc1d, hb2, hx3]
  exact ⟨_, rfl, RokI.h⟩
def fs_ref24_top (N : Nat) : FnS := { own := [], pure := false, fn := fun cs => match cs with
  | [c0] => (Actor.decA c0).bind fun qc0 => (ref24_top N qc0).map fun r => .tup [.agg (Turn.row r.1), .val (.bool r.2)]
  | _ => none }
attribute [go_sem] fs_ref24_top
theorem fs_ref24_top_ok (N : Nat) : FSOk Try.prog 52 (fs_ref24_top N) := by
  refine ⟨fun cs r h => ?_, fun h => by cases h⟩
  simp only [fs_ref24_top] at h
  split at h
  · simp only [Option.bind_eq_some_iff, Option.map_eq_some_iff] at h
    obtain ⟨q0, h0, r', hr, rfl⟩ := h
    exact ((w_ref24_top N q0 r' hr).args (LeL.cons (Actor.decA_le h0) (LeL.nil)))
  · cases h


noncomputable def G_ref24_Admits (N d f : Nat) : Option FnS := glist [(9, 16, fs_ref24_Valid N), (13, 18, fs_ref24_ValidRequest N), (42, 22, fs_ref24_SameID N), (45, 52, fs_ref24_top N), (51, 53, fs_ref24_running N), (65, 24, fs_ref24_Descends N)] d f
attribute [go_sem] G_ref24_Admits
set_option maxHeartbeats 40000000 in
theorem w_ref24_Admits (N : Nat) (a0 : Actor) (a1 : Request) (r : Int) (h : ref24_Admits N a0 a1 = some r) : Con Try.prog 34 [] true [.agg (Actor.row a0), .agg (Request.row a1)] (.val (.int .i64 r)) := by
  refine fun_ok4 (G := (G_ref24_Admits N)) Try.func34 rfl (by decide) (by kernel_rfl) (gc 9 (fs_ref24_Valid_ok N) (gc 13 (fs_ref24_ValidRequest_ok N) (gc 42 (fs_ref24_SameID_ok N) (gc 45 (fs_ref24_top_ok N) (gc 51 (fs_ref24_running_ok N) (gc 65 (fs_ref24_Descends_ok N) gn)))))) [] mix (Nat.le_of_ble_eq_true rfl) ?_
  simp only [Try.f34]
  unfold ref24_Admits at h
  refine Wk_seq (Wk_regionZ fun Z hZ => ?_)
  simp only [go_sem, seval]
  refine hZ _ (pp ?_)
  refine Wk_seq ?_
  apply Wk_join1 (fun (c7 : Bool) => ⟨tab 73 (updT (updT (updT deadT 2 (.pref 2 [] 0 0)) 3 (.pref 3 [] 0 0)) 22 (.val (.bool c7))), (upd (upd RZ 2 (.sl true none 4 (some 1) [Actor.row a0])) 3 (.sl true none 9 (some 1) [Request.row a1]))⟩)
  · intro hJ1
    obtain ⟨r8, hr2, h⟩ := Option.bind_eq_some_iff.1 h
    refine Wk_regionZ fun Z hZ => ?_
    simp only [go_sem, seval, hr2]
    refine RX_guard_nbool rfl (fun hc3 => ?_) (fun hc3 => ?_)
    · rw [if_neg (ne_true_of_eq_false hc3)] at h
      simp only [go_sem, seval, hr2, hc3]
      refine hZ _ (pp ?_)
      refine hJ1 _ true ?_ h
      refine weak_roots ?_ ?_ <;> repeat' first | exact xn | exact rn | refine xc ?_ ?_ | refine rc ?_ ?_ ?_ | rfl | simp only [go_sem, seval, Bool.or_self, List.length_set, Int.natCast_zero, Int.cast_ofNat_Int, hr2, hc3]
    rw [if_pos hc3] at h
    obtain ⟨r9, hr4, h⟩ := Option.bind_eq_some_iff.1 h
    simp only [go_sem, seval, hr2, hc3, hr4]
    refine RX_guard_nbool rfl (fun hc5 => ?_) (fun hc5 => ?_)
    · rw [if_neg (ne_true_of_eq_false hc5)] at h
      simp only [go_sem, seval, hr2, hc3, hr4, hc5]
      refine hZ _ (pp ?_)
      refine hJ1 _ true ?_ h
      refine weak_roots ?_ ?_ <;> repeat' first | exact xn | exact rn | refine xc ?_ ?_ | refine rc ?_ ?_ ?_ | rfl | simp only [go_sem, seval, Bool.or_self, List.length_set, Int.natCast_zero, Int.cast_ofNat_Int, hr2, hc3, hr4, hc5]
    rw [if_pos hc5] at h
    simp only [go_sem, seval, hr2, hc3, hr4, hc5]
    refine hZ _ (pp ?_)
    refine hJ1 _ (!(sEq a1.Target.Type_ a0.Self.Type_ && sEq a1.Target.Key a0.Self.Key)) ?_ h
    refine weak_roots ?_ ?_ <;> repeat' first | exact xn | exact rn | refine xc ?_ ?_ | refine rc ?_ ?_ ?_ | rfl | simp only [go_sem, seval, Bool.or_self, List.length_set, Int.natCast_zero, Int.cast_ofNat_Int, hr2, hc3, hr4, hc5]
  intro c7 h
  unfold ref24_Admits_J1 at h
  refine Wk_cond_bool rfl (fun hc6 => ?_) (fun hc6 => ?_)
  · rw [if_pos hc6] at h
    refine Wk_seq (Wk_regionZ fun Z hZ => ?_)
    simp only [go_sem, seval, hc6]
    refine hZ _ (pp ?_)
    refine Wk_ret (pp ?_)
    cases h
    simp only [go_sem, seval, hc6]
    exact ⟨_, rfl, RokI.h, PureI.h⟩
  rw [if_neg (ne_true_of_eq_false hc6)] at h
  refine Wk_skip (pp ?_)
  unfold ref24_Admits_J5 at h
  refine Wk_seq (Wk_seq (Wk_regionZ fun Z hZ => ?_))
  simp only [go_sem, seval, hc6]
  refine hZ _ (pp ?_)
  refine Wk_block (Wk_real fun hreal8 => ?_)
  have hl7 := hreal8.cell 2 3 (by simp only [go_sem, seval, Bool.or_self, List.length_set, Int.natCast_zero, Int.cast_ofNat_Int, hc6]; rfl) rfl
  rw [List.length_map] at hl7
  refine Wk_range (fun (v7 : Nat) (b : Unit) => ⟨tab 73 (updT (updT (updT deadT 2 (.pref 2 [] 0 0)) 3 (.pref 3 [] 0 0)) 5 (.val (.int .i64 ((v7 : Nat) : Int)))), (upd (upd RZ 2 (.sl true none 4 (some 1) [Actor.row a0])) 3 (.sl true none 9 (some 1) [Request.row a1]))⟩) () h ?_ ?_
  · refine weak_roots ?_ ?_ <;> repeat' first | exact xn | exact rn | refine xc ?_ ?_ | refine rc ?_ ?_ ?_ | rfl | simp only [go_sem, seval, Bool.or_self, List.length_set, Int.natCast_zero, Int.cast_ofNat_Int, hc6]
  rintro v7 ⟨⟩ hi9 h -
  rcases (drop_cases a0.Stack v7 hi9) with ⟨x10, hi9', hx10, hd12⟩ | ⟨hi9', _, hd12⟩
  · rw [hd12] at h
    simp only [ref24_Admits_L1] at h
    have hw11 := wrap_succ hi9' hl7
    refine Wk_seq (Wk_seq (Wk_regionZ fun Z hZ => ?_))
    simp only [go_sem, seval, hc6, hx10, hi9', hw11]
    refine hZ _ (pp ?_)
    try simp only [Int.ofNat_lt, hi9', if_true, if_false] at h
    refine Wk_cond_t rfl (Wk_skip (pp ?_))
    refine Wk_seq (Wk_block (Wk_seq ?_))
    try rw [gx_nat hx10] at h
    obtain ⟨r17, hr13, h⟩ := Option.bind_eq_some_iff.1 h
    refine Wk_regionD fun Z hZ => ?_
    simp only [go_sem, seval, hc6, hx10, hi9', hw11, hr13]
    repeat with_reducible refine and_bar (by kernel_rfl) ?_
    refine hZ _ (by kernel_rfl) (pp ?_)
    refine Wk_cond_bool rfl (fun hc14 => ?_) (fun hc14 => ?_)
    · rw [if_pos hc14] at h
      refine Wk_seq (Wk_regionZ fun Z hZ => ?_)
      simp only [go_sem, seval, hc6, hx10, hi9', hw11, hr13, hc14]
      refine hZ _ (pp ?_)
      refine Wk_ret (pp ?_)
      cases h
      simp only [go_sem, seval, hc6, hx10, hi9', hw11, hr13, hc14]
      exact ⟨_, rfl, RokI.h, PureI.h⟩
    rw [if_neg (ne_true_of_eq_false hc14)] at h
    refine Wk_skip (pp ?_)
    refine Wk_regionZ fun Z hZ => ?_
    simp only [go_sem, seval, hc6, hx10, hi9', hw11, hr13, hc14]
    refine hZ _ (pp ?_)
    first | refine ⟨(), ?_, h⟩ | refine ⟨hi9', (), ?_, h⟩
    refine weak_roots ?_ ?_ <;> repeat' first | exact xn | exact rn | refine xc ?_ ?_ | refine rc ?_ ?_ ?_ | rfl | simp only [go_sem, seval, Bool.or_self, List.length_set, Int.natCast_zero, Int.cast_ofNat_Int, hc6, hx10, hi9', hw11, hr13, hc14]
  rw [hd12] at h
  simp only [ref24_Admits_L1] at h
  refine Wk_seq (Wk_seq (Wk_regionZ fun Z hZ => ?_))
  simp only [go_sem, seval, hc6, hi9']
  refine hZ _ (pp ?_)
  try simp only [Int.ofNat_lt, hi9', if_true, if_false] at h
  refine Wk_cond_f rfl (Wk_exit (pp ?_))
  unfold ref24_Admits_J4 at h
  refine Wk_seq (Wk_seq ?_)
  obtain ⟨r23, hr15, h⟩ := Option.bind_eq_some_iff.1 h
  refine Wk_regionZ fun Z hZ => ?_
  simp only [go_sem, seval, hc6, hi9', hr15]
  refine hZ _ (pp ?_)
  apply Wk_join1 (fun (c26 : Bool) => ⟨tab 73 (updT (updT deadT 2 (.pref 2 [] 0 0)) 68 (.val (.bool c26))), (upd RZ 2 (.sl true none 4 (some 1) [Actor.row a0]))⟩)
  · intro hJ16
    refine Wk_regionZ fun Z hZ => ?_
    simp only [go_sem, seval, hc6, hi9', hr15]
    refine sw (RX_guard_bool rfl) (fun hc17 => ?_) (fun hc17 => ?_)
    · rw [if_neg (ne_true_of_eq_false hc17)] at h
      simp only [go_sem, seval, hc6, hi9', hr15, hc17]
      refine hZ _ (pp ?_)
      refine hJ16 _ false ?_ h
      refine weak_roots ?_ ?_ <;> repeat' first | exact xn | exact rn | refine xc ?_ ?_ | refine rc ?_ ?_ ?_ | rfl | simp only [go_sem, seval, Bool.or_self, List.length_set, Int.natCast_zero, Int.cast_ofNat_Int, hc6, hi9', hr15, hc17]
    rw [if_pos hc17] at h
    obtain ⟨r27, hr18, h⟩ := Option.bind_eq_some_iff.1 h
    simp only [go_sem, seval, hc6, hi9', hr15, hc17, hr18]
    refine RX_guard_bool rfl (fun hc19 => ?_) (fun hc19 => ?_)
    · rw [if_pos hc19] at h
      simp only [go_sem, seval, hc6, hi9', hr15, hc17, hr18, hc19]
      refine hZ _ (pp ?_)
      refine hJ16 _ true ?_ h
      refine weak_roots ?_ ?_ <;> repeat' first | exact xn | exact rn | refine xc ?_ ?_ | refine rc ?_ ?_ ?_ | rfl | simp only [go_sem, seval, Bool.or_self, List.length_set, Int.natCast_zero, Int.cast_ofNat_Int, hc6, hi9', hr15, hc17, hr18, hc19]
    rw [if_neg (ne_true_of_eq_false hc19)] at h
    simp only [go_sem, seval, hc6, hi9', hr15, hc17, hr18, hc19]
    refine RX_guard_nbool rfl (fun hc20 => ?_) (fun hc20 => ?_)
    · rw [if_neg (ne_true_of_eq_false hc20)] at h
      simp only [go_sem, seval, hc6, hi9', hr15, hc17, hr18, hc19, hc20]
      refine hZ _ (pp ?_)
      refine hJ16 _ true ?_ h
      refine weak_roots ?_ ?_ <;> repeat' first | exact xn | exact rn | refine xc ?_ ?_ | refine rc ?_ ?_ ?_ | rfl | simp only [go_sem, seval, Bool.or_self, List.length_set, Int.natCast_zero, Int.cast_ofNat_Int, hc6, hi9', hr15, hc17, hr18, hc19, hc20]
    rw [if_pos hc20] at h
    simp only [go_sem, seval, hc6, hi9', hr15, hc17, hr18, hc19, hc20]
    refine RX_guard_bool rfl (fun hc21 => ?_) (fun hc21 => ?_)
    · rw [if_pos hc21] at h
      simp only [go_sem, seval, hc6, hi9', hr15, hc17, hr18, hc19, hc20, hc21]
      refine hZ _ (pp ?_)
      refine hJ16 _ true ?_ h
      refine weak_roots ?_ ?_ <;> repeat' first | exact xn | exact rn | refine xc ?_ ?_ | refine rc ?_ ?_ ?_ | rfl | simp only [go_sem, seval, Bool.or_self, List.length_set, Int.natCast_zero, Int.cast_ofNat_Int, hc6, hi9', hr15, hc17, hr18, hc19, hc20, hc21]
    rw [if_neg (ne_true_of_eq_false hc21)] at h
    obtain ⟨r28, hr22, h⟩ := Option.bind_eq_some_iff.1 h
    simp only [go_sem, seval, hc6, hi9', hr15, hc17, hr18, hc19, hc20, hc21, hr22]
    refine hZ _ (pp ?_)
    refine hJ16 _ (!r28) ?_ h
    refine weak_roots ?_ ?_ <;> repeat' first | exact xn | exact rn | refine xc ?_ ?_ | refine rc ?_ ?_ ?_ | rfl | simp only [go_sem, seval, Bool.or_self, List.length_set, Int.natCast_zero, Int.cast_ofNat_Int, hc6, hi9', hr15, hc17, hr18, hc19, hc20, hc21, hr22]
  intro c26 h
  unfold ref24_Admits_J2 at h
  refine Wk_cond_bool rfl (fun hc23 => ?_) (fun hc23 => ?_)
  · rw [if_pos hc23] at h
    refine Wk_seq (Wk_regionZ fun Z hZ => ?_)
    simp only [go_sem, seval, hc6, hi9', hr15, hc23]
    refine hZ _ (pp ?_)
    refine Wk_ret (pp ?_)
    cases h
    simp only [go_sem, seval, hc6, hi9', hr15, hc23]
    exact ⟨_, rfl, RokI.h, PureI.h⟩
  rw [if_neg (ne_true_of_eq_false hc23)] at h
  refine Wk_skip (pp ?_)
  unfold ref24_Admits_J3 at h
  refine Wk_seq (Wk_seq (Wk_regionZ fun Z hZ => ?_))
  simp only [go_sem, seval, hc6, hi9', hr15, hc23]
  refine hZ _ (pp ?_)
  refine Wk_cond_dec rfl (fun hc24 => ?_) (fun hc24 => ?_)
  · have hc24d := decide_eq_true hc24
    first | rw [if_pos hc24] at h | rw [if_pos hc24d] at h
    refine Wk_seq (Wk_regionZ fun Z hZ => ?_)
    simp only [go_sem, seval, hc6, hi9', hr15, hc23, hc24d]
    refine hZ _ (pp ?_)
    refine Wk_ret (pp ?_)
    cases h
    simp only [go_sem, seval, hc6, hi9', hr15, hc23, hc24d]
    exact ⟨_, rfl, RokI.h, PureI.h⟩
  have hc24d := decide_eq_false hc24
  first | rw [if_neg hc24] at h | rw [if_neg (ne_true_of_eq_false hc24d)] at h
  refine Wk_skip (pp ?_)
  refine Wk_seq (Wk_regionZ fun Z hZ => ?_)
  simp only [go_sem, seval, hc6, hi9', hr15, hc23, hc24d]
  refine hZ _ (pp ?_)
  refine Wk_ret (pp ?_)
  cases h
  simp only [go_sem, seval, hc6, hi9', hr15, hc23, hc24d]
  exact ⟨_, rfl, RokI.h, PureI.h⟩
def fs_ref24_Admits (N : Nat) : FnS := { own := [], pure := true, fn := fun cs => match cs with
  | [c0, c1] => (Actor.decA c0).bind fun qc0 => (Request.decA c1).bind fun qc1 => (ref24_Admits N qc0 qc1).map fun r => .val (.int .i64 r)
  | _ => none }
attribute [go_sem] fs_ref24_Admits
theorem fs_ref24_Admits_ok (N : Nat) : FSOk Try.prog 34 (fs_ref24_Admits N) := by
  refine ⟨fun cs r h => ?_, fun h => by cases h⟩
  simp only [fs_ref24_Admits] at h
  split at h
  · simp only [Option.bind_eq_some_iff, Option.map_eq_some_iff] at h
    obtain ⟨q0, h0, q1, h1, r', hr, rfl⟩ := h
    exact ((w_ref24_Admits N q0 q1 r' hr).args (LeL.cons (Actor.decA_le h0) (LeL.cons (Request.decA_le h1) (LeL.nil))))
  · cases h


noncomputable def G_ref24_Begin (N d f : Nat) : Option FnS := glist [(10, 34, fs_ref24_Admits N)] d f
attribute [go_sem] G_ref24_Begin
set_option maxHeartbeats 40000000 in
theorem w_ref24_Begin (N : Nat) (a0 : Actor) (a1 : Request) (r : Actor × Int) (h : ref24_Begin N a0 a1 = some r) : Con Try.prog 30 [] false [.agg (Actor.row a0), .agg (Request.row a1)] (.tup [.agg [.val (.string r.1.Self.Type_), .val (.string r.1.Self.Key), .val (.int .i64 r.1.Index), .sl true none 30 none (r.1.Stack.map Turn.row)], .val (.int .i64 r.2)]) := by
  refine fun_ok4 (G := (G_ref24_Begin N)) Try.func30 rfl (by decide) (by kernel_rfl) (gc 10 (fs_ref24_Admits_ok N) gn) [] mix (Nat.le_of_ble_eq_true rfl) ?_
  simp only [Try.f30]
  unfold ref24_Begin at h
  refine Wk_seq (Wk_regionZ fun Z hZ => ?_)
  simp only [go_sem, seval]
  refine hZ _ (pp ?_)
  refine Wk_seq (Wk_seq ?_)
  obtain ⟨r1, hr1, h⟩ := Option.bind_eq_some_iff.1 h
  refine Wk_regionZ fun Z hZ => ?_
  simp only [go_sem, seval, hr1]
  refine hZ _ (pp ?_)
  refine Wk_seq (Wk_regionZ fun Z hZ => ?_)
  simp only [go_sem, seval, hr1]
  refine hZ _ (pp ?_)
  refine Wk_cond_ndec rfl (fun hc2 => ?_) (fun hc2 => ?_)
  · have hc2d := decide_eq_false hc2
    first | rw [if_neg hc2] at h | rw [if_neg (ne_true_of_eq_false hc2d)] at h
    refine Wk_seq (Wk_regionZ fun Z hZ => ?_)
    simp only [go_sem, seval, hr1, hc2d]
    refine hZ _ (pp ?_)
    refine Wk_ret (pp ?_)
    cases h
    simp only [go_sem, seval, hr1, hc2d]
    exact ⟨_, rfl, RokI.h⟩
  have hc2d := decide_eq_true hc2
  first | rw [if_pos hc2] at h | rw [if_pos hc2d] at h
  refine Wk_skip (pp ?_)
  refine Wk_seq (Wk_seq (Wk_regionZ fun Z hZ => ?_))
  simp only [go_sem, seval, hr1, hc2d]
  refine hZ _ (pp ?_)
  refine Wk_cond_dec rfl (fun hc3 => ?_) (fun hc3 => ?_)
  · have hc3d := decide_eq_true hc3
    first | rw [if_pos hc3] at h | rw [if_pos hc3d] at h
    refine Wk_seq (Wk_regionZ fun Z hZ => ?_)
    simp only [go_sem, seval, hr1, hc2d, hc3d]
    refine hZ _ (pp ?_)
    refine Wk_ret (pp ?_)
    cases h
    simp only [go_sem, seval, hr1, hc2d, hc3d]
    exact ⟨_, rfl, RokI.h⟩
  have hc3d := decide_eq_false hc3
  first | rw [if_neg hc3] at h | rw [if_neg (ne_true_of_eq_false hc3d)] at h
  refine Wk_skip (pp ?_)
  refine Wk_seq ?_
  first | obtain ⟨ha4, h⟩ := apn_some h | (obtain ⟨ha4, h⟩ := apx_some h; rw [List.nil_append] at h)
  simp only [List.length_append, List.length_cons, List.length_nil, Nat.zero_add, Nat.add_zero, Nat.reduceAdd] at ha4
  refine Wk_regionZ fun Z hZ => ?_
  simp only [go_sem, seval, hr1, hc2d, hc3d, ha4]
  refine hZ _ (pp ?_)
  refine Wk_seq ?_
  obtain ⟨ha5, h⟩ := apx_some h
  simp only [List.length_append, List.length_cons, List.length_nil, Nat.zero_add, Nat.add_zero, Nat.reduceAdd] at ha5
  refine Wk_regionH fun Y hY => ?_
  refine RX2_s rfl rfl fun Z hZ => ?_
  simp only [go_sem, seval, hr1, hc2d, hc3d, ha4, ha5]
  repeat with_reducible refine and_bar (by kernel_rfl) ?_
  refine hZ _ ?_
  refine RX2_s rfl rfl fun Z hZ => ?_
  simp only [go_sem, seval, hr1, hc2d, hc3d, ha4, ha5]
  repeat with_reducible refine and_bar (by kernel_rfl) ?_
  refine hZ _ ?_
  refine RX2_s rfl rfl fun Z hZ => ?_
  simp only [go_sem, seval, hr1, hc2d, hc3d, ha4, ha5]
  repeat with_reducible refine and_bar (by kernel_rfl) ?_
  refine hZ _ ?_
  refine RX2_s rfl rfl fun Z hZ => ?_
  simp only [go_sem, seval, hr1, hc2d, hc3d, ha4, ha5]
  repeat with_reducible refine and_bar (by kernel_rfl) ?_
  refine hZ _ ?_
  refine RX2_s rfl rfl fun Z hZ => ?_
  simp only [go_sem, seval, hr1, hc2d, hc3d, ha4, ha5]
  repeat with_reducible refine and_bar (by kernel_rfl) ?_
  refine hZ _ ?_
  refine RX2_s rfl rfl fun Z hZ => ?_
  simp only [go_sem, seval, hr1, hc2d, hc3d, ha4, ha5]
  repeat with_reducible refine and_bar (by kernel_rfl) ?_
  refine hZ _ ?_
  refine RX2_s rfl rfl fun Z hZ => ?_
  simp only [go_sem, seval, hr1, hc2d, hc3d, ha4, ha5]
  repeat with_reducible refine and_bar (by kernel_rfl) ?_
  refine hZ _ ?_
  refine RX2_s rfl rfl fun Z hZ => ?_
  simp only [go_sem, seval, hr1, hc2d, hc3d, ha4, ha5]
  repeat with_reducible refine and_bar (by kernel_rfl) ?_
  refine hZ _ ?_
  refine RX2_s rfl rfl fun Z hZ => ?_
  simp only [go_sem, seval, hr1, hc2d, hc3d, ha4, ha5]
  repeat with_reducible refine and_bar (by kernel_rfl) ?_
  refine hZ _ ?_
  refine RX2_a fun Z hZ => ?_
  simp only [go_sem, seval, hr1, hc2d, hc3d, ha4, ha5]
  repeat with_reducible refine and_bar (by kernel_rfl) ?_
  refine hZ _ ?_
  refine RX2_s rfl rfl fun Z hZ => ?_
  simp only [go_sem, seval, hr1, hc2d, hc3d, ha4, ha5]
  repeat with_reducible refine and_bar (by kernel_rfl) ?_
  refine hZ _ ?_
  refine RX2_w fun Z hZ => ?_
  simp only [go_sem, seval, hr1, hc2d, hc3d, ha4, ha5]
  repeat with_reducible refine and_bar (by kernel_rfl) ?_
  refine hZ _ ?_
  refine RX2_s rfl rfl fun Z hZ => ?_
  simp only [go_sem, seval, hr1, hc2d, hc3d, ha4, ha5]
  repeat with_reducible refine and_bar (by kernel_rfl) ?_
  refine hZ _ ?_
  refine RX2_end (by kernel_rfl) (hY _ (pp ?_))
  refine Wk_ret (pp ?_)
  cases h
  simp only [go_sem, seval, hr1, hc2d, hc3d, ha4, ha5]
  exact ⟨_, rfl, RokI.h⟩
def fs_ref24_Begin (N : Nat) : FnS := { own := [], pure := false, fn := fun cs => match cs with
  | [c0, c1] => (Actor.decA c0).bind fun qc0 => (Request.decA c1).bind fun qc1 => (ref24_Begin N qc0 qc1).map fun r => .tup [.agg (Actor.row r.1), .val (.int .i64 r.2)]
  | _ => none }
attribute [go_sem] fs_ref24_Begin
theorem fs_ref24_Begin_ok (N : Nat) : FSOk Try.prog 30 (fs_ref24_Begin N) := by
  refine ⟨fun cs r h => ?_, fun h => by cases h⟩
  simp only [fs_ref24_Begin] at h
  split at h
  · simp only [Option.bind_eq_some_iff, Option.map_eq_some_iff] at h
    obtain ⟨q0, h0, q1, h1, r', hr, rfl⟩ := h
    exact (((w_ref24_Begin N q0 q1 r' hr).args (LeL.cons (Actor.decA_le h0) (LeL.cons (Request.decA_le h1) (LeL.nil)))).res (by (try simp only [go_sem]); exact RokI.h))
  · cases h

def fso_ref24_Begin (N : Nat) : FnS := { own := [], pure := false, fn := fun cs => match cs with
  | [c0, c1] => (Actor.decA c0).bind fun qc0 => (Request.decA c1).bind fun qc1 => (ref24_Begin N qc0 qc1).map fun r => .tup [.agg [.val (.string r.1.Self.Type_), .val (.string r.1.Self.Key), .val (.int .i64 r.1.Index), .sl true none 30 none (r.1.Stack.map Turn.row)], .val (.int .i64 r.2)]
  | _ => none }
attribute [go_sem] fso_ref24_Begin
theorem fso_ref24_Begin_ok (N : Nat) : FSOk Try.prog 30 (fso_ref24_Begin N) := by
  refine ⟨fun cs r h => ?_, fun h => by cases h⟩
  simp only [fso_ref24_Begin] at h
  split at h
  · simp only [Option.bind_eq_some_iff, Option.map_eq_some_iff] at h
    obtain ⟨q0, h0, q1, h1, r', hr, rfl⟩ := h
    exact ((w_ref24_Begin N q0 q1 r' hr).args (LeL.cons (Actor.decA_le h0) (LeL.cons (Request.decA_le h1) (LeL.nil))))
  · cases h


noncomputable def G_ref24_End (N d f : Nat) : Option FnS := glist [(8, 16, fs_ref24_Valid N), (14, 52, fs_ref24_top N), (21, 53, fs_ref24_running N)] d f
attribute [go_sem] G_ref24_End
set_option maxHeartbeats 40000000 in
theorem w_ref24_End (N : Nat) (a0 : Actor) (r : Actor × Request × Int) (h : ref24_End N a0 = some r) : Con Try.prog 32 [] false [.agg (Actor.row a0)] (.tup [.agg [.val (.string r.1.Self.Type_), .val (.string r.1.Self.Key), .val (.int .i64 r.1.Index), .sl true none 30 none (r.1.Stack.map Turn.row)], .agg (Request.row r.2.1), .val (.int .i64 r.2.2)]) := by
  refine fun_ok4 (G := (G_ref24_End N)) Try.func32 rfl (by decide) (by kernel_rfl) (gc 8 (fs_ref24_Valid_ok N) (gc 14 (fs_ref24_top_ok N) (gc 21 (fs_ref24_running_ok N) gn))) [] mix (Nat.le_of_ble_eq_true rfl) ?_
  simp only [Try.f32]
  unfold ref24_End at h
  refine Wk_seq (Wk_regionZ fun Z hZ => ?_)
  simp only [go_sem, seval]
  refine hZ _ (pp ?_)
  refine Wk_seq (Wk_seq ?_)
  obtain ⟨r1, hr1, h⟩ := Option.bind_eq_some_iff.1 h
  refine Wk_regionZ fun Z hZ => ?_
  simp only [go_sem, seval, hr1]
  refine hZ _ (pp ?_)
  refine Wk_cond_nbool rfl (fun hc2 => ?_) (fun hc2 => ?_)
  · rw [if_neg (ne_true_of_eq_false hc2)] at h
    refine Wk_seq (Wk_regionZ fun Z hZ => ?_)
    simp only [go_sem, seval, hr1, hc2]
    refine hZ _ (pp ?_)
    refine Wk_ret (pp ?_)
    cases h
    simp only [go_sem, seval, hr1, hc2]
    exact ⟨_, rfl, RokI.h⟩
  rw [if_pos hc2] at h
  refine Wk_skip (pp ?_)
  refine Wk_seq ?_
  obtain ⟨r2, hr3, h⟩ := Option.bind_eq_some_iff.1 h
  refine Wk_regionZ fun Z hZ => ?_
  simp only [go_sem, seval, hr1, hc2, hr3]
  refine hZ _ (pp ?_)
  refine Wk_seq ?_
  apply Wk_join1 (fun (c7 : Bool) => ⟨tab 48 (updT (updT (updT (updT (updT deadT 1 (.pref 1 [] 0 0)) 2 (.pref 2 [] 0 0)) 3 (.pref 3 [] 0 0)) 5 (.pref 5 [] 0 0)) 23 (.val (.bool c7))), (upd (upd (upd (upd RZ 1 (.sl true none 4 (some 1) [Actor.row a0])) 2 (.sl true none 4 (some 1) [[.val (.string (⟨#[]⟩)), .val (.string (⟨#[]⟩)), .val (.int .i64 0), .val (.slice none 0 0)]])) 3 (.sl true none 9 (some 1) [[.val (.string (⟨#[]⟩)), .val (.int .i64 0), .val (.slice none 0 0), .val (.string (⟨#[]⟩)), .val (.string (⟨#[]⟩)), .val (.string (⟨#[]⟩)), .val (.slice none 0 0), .val (.slice none 0 0), .val (.int .i64 0)]])) 5 (.sl true none 30 (some 1) [Turn.row r2.1]))⟩)
  · intro hJ4
    refine Wk_regionZ fun Z hZ => ?_
    simp only [go_sem, seval, hr1, hc2, hr3]
    refine RX_guard_nbool rfl (fun hc5 => ?_) (fun hc5 => ?_)
    · rw [if_neg (ne_true_of_eq_false hc5)] at h
      simp only [go_sem, seval, hr1, hc2, hr3, hc5]
      refine hZ _ (pp ?_)
      refine hJ4 _ true ?_ h
      refine weak_roots ?_ ?_ <;> repeat' first | exact xn | exact rn | refine xc ?_ ?_ | refine rc ?_ ?_ ?_ | rfl | simp only [go_sem, seval, Bool.or_self, List.length_set, Int.natCast_zero, Int.cast_ofNat_Int, hr1, hc2, hr3, hc5]
    rw [if_pos hc5] at h
    obtain ⟨r8, hr6, h⟩ := Option.bind_eq_some_iff.1 h
    simp only [go_sem, seval, hr1, hc2, hr3, hc5, hr6]
    refine hZ _ (pp ?_)
    refine hJ4 _ (!r8) ?_ h
    refine weak_roots ?_ ?_ <;> repeat' first | exact xn | exact rn | refine xc ?_ ?_ | refine rc ?_ ?_ ?_ | rfl | simp only [go_sem, seval, Bool.or_self, List.length_set, Int.natCast_zero, Int.cast_ofNat_Int, hr1, hc2, hr3, hc5, hr6]
  intro c7 h
  unfold ref24_End_J1 at h
  refine Wk_cond_bool rfl (fun hc7 => ?_) (fun hc7 => ?_)
  · rw [if_pos hc7] at h
    refine Wk_seq (Wk_regionZ fun Z hZ => ?_)
    simp only [go_sem, seval, hr1, hc2, hr3, hc7]
    refine hZ _ (pp ?_)
    refine Wk_ret (pp ?_)
    cases h
    simp only [go_sem, seval, hr1, hc2, hr3, hc7]
    exact ⟨_, rfl, RokI.h⟩
  rw [if_neg (ne_true_of_eq_false hc7)] at h
  refine Wk_skip (pp ?_)
  unfold ref24_End_J2 at h
  refine Wk_seq (Wk_seq (Wk_regionZ fun Z hZ => ?_))
  simp only [go_sem, seval, hr1, hc2, hr3, hc7]
  refine hZ _ (pp ?_)
  refine Wk_cond_dec rfl (fun hc8 => ?_) (fun hc8 => ?_)
  · have hc8d := decide_eq_true hc8
    first | rw [if_pos hc8] at h | rw [if_pos hc8d] at h
    refine Wk_seq (Wk_regionZ fun Z hZ => ?_)
    simp only [go_sem, seval, hr1, hc2, hr3, hc7, hc8d]
    refine hZ _ (pp ?_)
    refine Wk_ret (pp ?_)
    cases h
    simp only [go_sem, seval, hr1, hc2, hr3, hc7, hc8d]
    exact ⟨_, rfl, RokI.h⟩
  have hc8d := decide_eq_false hc8
  first | rw [if_neg hc8] at h | rw [if_neg (ne_true_of_eq_false hc8d)] at h
  refine Wk_skip (pp ?_)
  refine Wk_seq ?_
  obtain ⟨hs9, h⟩ := slx_some h
  try simp only [Int.toNat_natCast, Int.reduceToNat, Int.toNat_zero, Nat.sub_zero, List.drop_zero] at hs9 h
  first | obtain ⟨ha10, h⟩ := apn_some h | (obtain ⟨ha10, h⟩ := apx_some h; rw [List.nil_append] at h)
  simp only [List.length_append, List.length_cons, List.length_nil, Nat.zero_add, Nat.add_zero, Nat.reduceAdd] at ha10
  refine Wk_regionH fun Y hY => ?_
  refine RX2_s rfl rfl fun Z hZ => ?_
  simp only [go_sem, seval, hr1, hc2, hr3, hc7, hc8d, hs9, Nat.sub_zero, Nat.zero_le, ha10]
  repeat with_reducible refine and_bar (by kernel_rfl) ?_
  refine hZ _ ?_
  refine RX2_s rfl rfl fun Z hZ => ?_
  simp only [go_sem, seval, hr1, hc2, hr3, hc7, hc8d, hs9, Nat.sub_zero, Nat.zero_le, ha10]
  repeat with_reducible refine and_bar (by kernel_rfl) ?_
  refine hZ _ ?_
  refine RX2_s rfl rfl fun Z hZ => ?_
  simp only [go_sem, seval, hr1, hc2, hr3, hc7, hc8d, hs9, Nat.sub_zero, Nat.zero_le, ha10]
  repeat with_reducible refine and_bar (by kernel_rfl) ?_
  refine hZ _ ?_
  refine RX2_s rfl rfl fun Z hZ => ?_
  simp only [go_sem, seval, hr1, hc2, hr3, hc7, hc8d, hs9, Nat.sub_zero, Nat.zero_le, ha10]
  repeat with_reducible refine and_bar (by kernel_rfl) ?_
  refine hZ _ ?_
  refine RX2_s rfl rfl fun Z hZ => ?_
  simp only [go_sem, seval, hr1, hc2, hr3, hc7, hc8d, hs9, Nat.sub_zero, Nat.zero_le, ha10]
  repeat with_reducible refine and_bar (by kernel_rfl) ?_
  refine hZ _ ?_
  refine RX2_s rfl rfl fun Z hZ => ?_
  simp only [go_sem, seval, hr1, hc2, hr3, hc7, hc8d, hs9, Nat.sub_zero, Nat.zero_le, ha10]
  repeat with_reducible refine and_bar (by kernel_rfl) ?_
  refine hZ _ ?_
  refine RX2_s rfl rfl fun Z hZ => ?_
  simp only [go_sem, seval, hr1, hc2, hr3, hc7, hc8d, hs9, Nat.sub_zero, Nat.zero_le, ha10]
  repeat with_reducible refine and_bar (by kernel_rfl) ?_
  refine hZ _ ?_
  refine RX2_s rfl rfl fun Z hZ => ?_
  simp only [go_sem, seval, hr1, hc2, hr3, hc7, hc8d, hs9, Nat.sub_zero, Nat.zero_le, ha10]
  repeat with_reducible refine and_bar (by kernel_rfl) ?_
  refine hZ _ ?_
  refine RX2_s rfl rfl fun Z hZ => ?_
  simp only [go_sem, seval, hr1, hc2, hr3, hc7, hc8d, hs9, Nat.sub_zero, Nat.zero_le, ha10]
  repeat with_reducible refine and_bar (by kernel_rfl) ?_
  refine hZ _ ?_
  refine RX2_s rfl rfl fun Z hZ => ?_
  simp only [go_sem, seval, hr1, hc2, hr3, hc7, hc8d, hs9, Nat.sub_zero, Nat.zero_le, ha10]
  repeat with_reducible refine and_bar (by kernel_rfl) ?_
  refine hZ _ ?_
  refine RX2_s rfl rfl fun Z hZ => ?_
  simp only [go_sem, seval, hr1, hc2, hr3, hc7, hc8d, hs9, Nat.sub_zero, Nat.zero_le, ha10]
  repeat with_reducible refine and_bar (by kernel_rfl) ?_
  refine hZ _ ?_
  refine RX2_s rfl rfl fun Z hZ => ?_
  simp only [go_sem, seval, hr1, hc2, hr3, hc7, hc8d, hs9, Nat.sub_zero, Nat.zero_le, ha10]
  repeat with_reducible refine and_bar (by kernel_rfl) ?_
  refine hZ _ ?_
  refine RX2_s rfl rfl fun Z hZ => ?_
  simp only [go_sem, seval, hr1, hc2, hr3, hc7, hc8d, hs9, Nat.sub_zero, Nat.zero_le, ha10]
  repeat with_reducible refine and_bar (by kernel_rfl) ?_
  refine hZ _ ?_
  refine RX2_a fun Z hZ => ?_
  simp only [go_sem, seval, hr1, hc2, hr3, hc7, hc8d, hs9, Nat.sub_zero, Nat.zero_le, ha10]
  repeat with_reducible refine and_bar (by kernel_rfl) ?_
  refine hZ _ ?_
  refine RX2_s rfl rfl fun Z hZ => ?_
  simp only [go_sem, seval, hr1, hc2, hr3, hc7, hc8d, hs9, Nat.sub_zero, Nat.zero_le, ha10]
  repeat with_reducible refine and_bar (by kernel_rfl) ?_
  refine hZ _ ?_
  refine RX2_s rfl rfl fun Z hZ => ?_
  simp only [go_sem, seval, hr1, hc2, hr3, hc7, hc8d, hs9, Nat.sub_zero, Nat.zero_le, ha10]
  repeat with_reducible refine and_bar (by kernel_rfl) ?_
  refine hZ _ ?_
  refine RX2_s rfl rfl fun Z hZ => ?_
  simp only [go_sem, seval, hr1, hc2, hr3, hc7, hc8d, hs9, Nat.sub_zero, Nat.zero_le, ha10]
  repeat with_reducible refine and_bar (by kernel_rfl) ?_
  refine hZ _ ?_
  refine RX2_w fun Z hZ => ?_
  simp only [go_sem, seval, hr1, hc2, hr3, hc7, hc8d, hs9, Nat.sub_zero, Nat.zero_le, ha10]
  repeat with_reducible refine and_bar (by kernel_rfl) ?_
  refine hZ _ ?_
  refine RX2_w fun Z hZ => ?_
  simp only [go_sem, seval, hr1, hc2, hr3, hc7, hc8d, hs9, Nat.sub_zero, Nat.zero_le, ha10]
  repeat with_reducible refine and_bar (by kernel_rfl) ?_
  refine hZ _ ?_
  refine RX2_s rfl rfl fun Z hZ => ?_
  simp only [go_sem, seval, hr1, hc2, hr3, hc7, hc8d, hs9, Nat.sub_zero, Nat.zero_le, ha10]
  repeat with_reducible refine and_bar (by kernel_rfl) ?_
  refine hZ _ ?_
  refine RX2_end (by kernel_rfl) (hY _ (pp ?_))
  refine Wk_ret (pp ?_)
  cases h
  simp only [go_sem, seval, hr1, hc2, hr3, hc7, hc8d, hs9, Nat.sub_zero, Nat.zero_le, ha10]
  exact ⟨_, rfl, RokI.h⟩
def fs_ref24_End (N : Nat) : FnS := { own := [], pure := false, fn := fun cs => match cs with
  | [c0] => (Actor.decA c0).bind fun qc0 => (ref24_End N qc0).map fun r => .tup [.agg (Actor.row r.1), .agg (Request.row r.2.1), .val (.int .i64 r.2.2)]
  | _ => none }
attribute [go_sem] fs_ref24_End
theorem fs_ref24_End_ok (N : Nat) : FSOk Try.prog 32 (fs_ref24_End N) := by
  refine ⟨fun cs r h => ?_, fun h => by cases h⟩
  simp only [fs_ref24_End] at h
  split at h
  · simp only [Option.bind_eq_some_iff, Option.map_eq_some_iff] at h
    obtain ⟨q0, h0, r', hr, rfl⟩ := h
    exact (((w_ref24_End N q0 r' hr).args (LeL.cons (Actor.decA_le h0) (LeL.nil))).res (by (try simp only [go_sem]); exact RokI.h))
  · cases h

def fso_ref24_End (N : Nat) : FnS := { own := [], pure := false, fn := fun cs => match cs with
  | [c0] => (Actor.decA c0).bind fun qc0 => (ref24_End N qc0).map fun r => .tup [.agg [.val (.string r.1.Self.Type_), .val (.string r.1.Self.Key), .val (.int .i64 r.1.Index), .sl true none 30 none (r.1.Stack.map Turn.row)], .agg (Request.row r.2.1), .val (.int .i64 r.2.2)]
  | _ => none }
attribute [go_sem] fso_ref24_End
theorem fso_ref24_End_ok (N : Nat) : FSOk Try.prog 32 (fso_ref24_End N) := by
  refine ⟨fun cs r h => ?_, fun h => by cases h⟩
  simp only [fso_ref24_End] at h
  split at h
  · simp only [Option.bind_eq_some_iff, Option.map_eq_some_iff] at h
    obtain ⟨q0, h0, r', hr, rfl⟩ := h
    exact ((w_ref24_End N q0 r' hr).args (LeL.cons (Actor.decA_le h0) (LeL.nil)))
  · cases h


noncomputable def G_ref24_SameTurn (N d f : Nat) : Option FnS := glist [(9, 25, fs_ref24_SameRequest N), (22, 25, fs_ref24_SameRequest N), (43, 45, fs_ref24_SameReply N)] d f
attribute [go_sem] G_ref24_SameTurn
set_option maxHeartbeats 40000000 in
theorem w_ref24_SameTurn (N : Nat) (a0 : Turn) (a1 : Turn) (r : Bool) (h : ref24_SameTurn N a0 a1 = some r) : Con Try.prog 72 [] true [.agg (Turn.row a0), .agg (Turn.row a1)] (.val (.bool r)) := by
  refine fun_ok4 (G := (G_ref24_SameTurn N)) Try.func72 rfl (by decide) (by kernel_rfl) (gc 9 (fs_ref24_SameRequest_ok N) (gc 22 (fs_ref24_SameRequest_ok N) (gc 43 (fs_ref24_SameReply_ok N) gn))) [] mix (Nat.le_of_ble_eq_true rfl) ?_
  simp only [Try.f72]
  unfold ref24_SameTurn at h
  refine Wk_seq (Wk_regionZ fun Z hZ => ?_)
  simp only [go_sem, seval]
  refine hZ _ (pp ?_)
  refine Wk_seq ?_
  obtain ⟨r1, hr1, h⟩ := Option.bind_eq_some_iff.1 h
  refine Wk_regionZ fun Z hZ => ?_
  simp only [go_sem, seval, hr1]
  refine sw (RX_guard_bool rfl) (fun hc2 => ?_) (fun hc2 => ?_)
  · rw [if_neg (ne_true_of_eq_false hc2)] at h
    simp only [go_sem, seval, hr1, hc2]
    refine hZ _ (pp ?_)
    refine Wk_ret (pp ?_)
    cases h
    simp only [go_sem, seval, hr1, hc2]
    exact ⟨_, rfl, RokI.h, PureI.h⟩
  rw [if_pos hc2] at h
  simp only [go_sem, seval, hr1, hc2]
  refine sw (RX_guard_dec rfl) (fun hc3 => ?_) (fun hc3 => ?_)
  · have hc3d := decide_eq_false hc3
    first | rw [if_neg hc3] at h | rw [if_neg (ne_true_of_eq_false hc3d)] at h
    simp only [go_sem, seval, hr1, hc2, hc3d]
    refine hZ _ (pp ?_)
    refine Wk_ret (pp ?_)
    cases h
    simp only [go_sem, seval, hr1, hc2, hc3d]
    exact ⟨_, rfl, RokI.h, PureI.h⟩
  have hc3d := decide_eq_true hc3
  first | rw [if_pos hc3] at h | rw [if_pos hc3d] at h
  obtain ⟨r2, hr4, h⟩ := Option.bind_eq_some_iff.1 h
  simp only [go_sem, seval, hr1, hc2, hc3d, hr4]
  refine sw (RX_guard_bool rfl) (fun hc5 => ?_) (fun hc5 => ?_)
  · rw [if_neg (ne_true_of_eq_false hc5)] at h
    simp only [go_sem, seval, hr1, hc2, hc3d, hr4, hc5]
    refine hZ _ (pp ?_)
    refine Wk_ret (pp ?_)
    cases h
    simp only [go_sem, seval, hr1, hc2, hc3d, hr4, hc5]
    exact ⟨_, rfl, RokI.h, PureI.h⟩
  rw [if_pos hc5] at h
  simp only [go_sem, seval, hr1, hc2, hc3d, hr4, hc5]
  refine sw (RX_guard_dec rfl) (fun hc6 => ?_) (fun hc6 => ?_)
  · have hc6d := decide_eq_false hc6
    first | rw [if_neg hc6] at h | rw [if_neg (ne_true_of_eq_false hc6d)] at h
    simp only [go_sem, seval, hr1, hc2, hc3d, hr4, hc5, hc6d]
    refine hZ _ (pp ?_)
    refine Wk_ret (pp ?_)
    cases h
    simp only [go_sem, seval, hr1, hc2, hc3d, hr4, hc5, hc6d]
    exact ⟨_, rfl, RokI.h, PureI.h⟩
  have hc6d := decide_eq_true hc6
  first | rw [if_pos hc6] at h | rw [if_pos hc6d] at h
  simp only [go_sem, seval, hr1, hc2, hc3d, hr4, hc5, hc6d]
  refine RX_guard_dec rfl (fun hc7 => ?_) (fun hc7 => ?_)
  · have hc7d := decide_eq_true hc7
    first | rw [if_pos hc7] at h | rw [if_pos hc7d] at h
    obtain ⟨r3, hr8, h⟩ := Option.bind_eq_some_iff.1 h
    simp only [go_sem, seval, hr1, hc2, hc3d, hr4, hc5, hc6d, hc7d, hr8]
    refine hZ _ (pp ?_)
    refine Wk_ret (pp ?_)
    cases h
    simp only [go_sem, seval, hr1, hc2, hc3d, hr4, hc5, hc6d, hc7d, hr8]
    exact ⟨_, rfl, RokI.h, PureI.h⟩
  have hc7d := decide_eq_false hc7
  first | rw [if_neg hc7] at h | rw [if_neg (ne_true_of_eq_false hc7d)] at h
  simp only [go_sem, seval, hr1, hc2, hc3d, hr4, hc5, hc6d, hc7d]
  refine hZ _ (pp ?_)
  refine Wk_ret (pp ?_)
  cases h
  simp only [go_sem, seval, hr1, hc2, hc3d, hr4, hc5, hc6d, hc7d]
  exact ⟨_, rfl, RokI.h, PureI.h⟩
def fs_ref24_SameTurn (N : Nat) : FnS := { own := [], pure := true, fn := fun cs => match cs with
  | [c0, c1] => (Turn.decA c0).bind fun qc0 => (Turn.decA c1).bind fun qc1 => (ref24_SameTurn N qc0 qc1).map fun r => .val (.bool r)
  | _ => none }
attribute [go_sem] fs_ref24_SameTurn
theorem fs_ref24_SameTurn_ok (N : Nat) : FSOk Try.prog 72 (fs_ref24_SameTurn N) := by
  refine ⟨fun cs r h => ?_, fun h => by cases h⟩
  simp only [fs_ref24_SameTurn] at h
  split at h
  · simp only [Option.bind_eq_some_iff, Option.map_eq_some_iff] at h
    obtain ⟨q0, h0, q1, h1, r', hr, rfl⟩ := h
    exact ((w_ref24_SameTurn N q0 q1 r' hr).args (LeL.cons (Turn.decA_le h0) (LeL.cons (Turn.decA_le h1) (LeL.nil))))
  · cases h


noncomputable def G_ref24_Same (N d f : Nat) : Option FnS := glist [(44, 72, fs_ref24_SameTurn N)] d f
attribute [go_sem] G_ref24_Same
set_option maxHeartbeats 40000000 in
theorem w_ref24_Same (N : Nat) (a0 : Actor) (a1 : Actor) (r : Bool) (h : ref24_Same N a0 a1 = some r) : Con Try.prog 26 [] true [.agg (Actor.row a0), .agg (Actor.row a1)] (.val (.bool r)) := by
  refine fun_ok4 (G := (G_ref24_Same N)) Try.func26 rfl (by decide) (by kernel_rfl) (gc 44 (fs_ref24_SameTurn_ok N) gn) [] mix (Nat.le_of_ble_eq_true rfl) ?_
  simp only [Try.f26]
  unfold ref24_Same at h
  refine Wk_seq (Wk_regionZ fun Z hZ => ?_)
  simp only [go_sem, seval]
  refine hZ _ (pp ?_)
  refine Wk_seq ?_
  apply Wk_join1 (fun (c3 : Bool) => ⟨tab 46 (updT (updT (updT deadT 2 (.pref 2 [] 0 0)) 3 (.pref 3 [] 0 0)) 26 (.val (.bool c3))), (upd (upd RZ 2 (.sl true none 4 (some 1) [Actor.row a0])) 3 (.sl true none 4 (some 1) [Actor.row a1]))⟩)
  · intro hJ1
    refine Wk_regionZ fun Z hZ => ?_
    simp only [go_sem, seval]
    refine RX_guard_nbool rfl (fun hc2 => ?_) (fun hc2 => ?_)
    · rw [if_neg (ne_true_of_eq_false hc2)] at h
      simp only [go_sem, seval, hc2]
      refine hZ _ (pp ?_)
      refine hJ1 _ true ?_ h
      refine weak_roots ?_ ?_ <;> repeat' first | exact xn | exact rn | refine xc ?_ ?_ | refine rc ?_ ?_ ?_ | rfl | simp only [go_sem, seval, Bool.or_self, List.length_set, Int.natCast_zero, Int.cast_ofNat_Int, hc2]
    rw [if_pos hc2] at h
    simp only [go_sem, seval, hc2]
    refine RX_guard_ndec rfl (fun hc3 => ?_) (fun hc3 => ?_)
    · have hc3d := decide_eq_false hc3
      first | rw [if_neg hc3] at h | rw [if_neg (ne_true_of_eq_false hc3d)] at h
      simp only [go_sem, seval, hc2, hc3d]
      refine hZ _ (pp ?_)
      refine hJ1 _ true ?_ h
      refine weak_roots ?_ ?_ <;> repeat' first | exact xn | exact rn | refine xc ?_ ?_ | refine rc ?_ ?_ ?_ | rfl | simp only [go_sem, seval, Bool.or_self, List.length_set, Int.natCast_zero, Int.cast_ofNat_Int, hc2, hc3d]
    have hc3d := decide_eq_true hc3
    first | rw [if_pos hc3] at h | rw [if_pos hc3d] at h
    simp only [go_sem, seval, hc2, hc3d]
    refine hZ _ (pp ?_)
    refine hJ1 _ (!decide (((a0.Stack.length : Nat) : Int) = ((a1.Stack.length : Nat) : Int))) ?_ h
    refine weak_roots ?_ ?_ <;> repeat' first | exact xn | exact rn | refine xc ?_ ?_ | refine rc ?_ ?_ ?_ | rfl | simp only [go_sem, seval, Bool.or_self, List.length_set, Int.natCast_zero, Int.cast_ofNat_Int, hc2, hc3d]
  intro c3 h
  unfold ref24_Same_J1 at h
  refine Wk_cond_bool rfl (fun hc4 => ?_) (fun hc4 => ?_)
  · rw [if_pos hc4] at h
    refine Wk_seq (Wk_regionZ fun Z hZ => ?_)
    simp only [go_sem, seval, hc4]
    refine hZ _ (pp ?_)
    refine Wk_ret (pp ?_)
    cases h
    simp only [go_sem, seval, hc4]
    exact ⟨_, rfl, RokI.h, PureI.h⟩
  rw [if_neg (ne_true_of_eq_false hc4)] at h
  refine Wk_skip (pp ?_)
  unfold ref24_Same_J2 at h
  refine Wk_seq (Wk_seq (Wk_regionZ fun Z hZ => ?_))
  simp only [go_sem, seval, hc4]
  refine hZ _ (pp ?_)
  refine Wk_block (Wk_real fun hreal6 => ?_)
  have hl5 := hreal6.cell 2 3 (by simp only [go_sem, seval, Bool.or_self, List.length_set, Int.natCast_zero, Int.cast_ofNat_Int, hc4]; rfl) rfl
  rw [List.length_map] at hl5
  refine Wk_range (fun (v5 : Nat) (b : Unit) => ⟨tab 46 (updT (updT (updT deadT 2 (.pref 2 [] 0 0)) 3 (.pref 3 [] 0 0)) 5 (.val (.int .i64 ((v5 : Nat) : Int)))), (upd (upd RZ 2 (.sl true none 4 (some 1) [Actor.row a0])) 3 (.sl true none 4 (some 1) [Actor.row a1]))⟩) () h ?_ ?_
  · refine weak_roots ?_ ?_ <;> repeat' first | exact xn | exact rn | refine xc ?_ ?_ | refine rc ?_ ?_ ?_ | rfl | simp only [go_sem, seval, Bool.or_self, List.length_set, Int.natCast_zero, Int.cast_ofNat_Int, hc4]
  rintro v5 ⟨⟩ hi7 h -
  rcases (drop_cases a0.Stack v5 hi7).symm with ⟨hi7', _, hd10⟩ | ⟨x8, hi7', hx8, hd10⟩
  · rw [hd10] at h
    simp only [ref24_Same_L1] at h
    refine Wk_seq (Wk_seq (Wk_regionZ fun Z hZ => ?_))
    simp only [go_sem, seval, hc4, hi7']
    refine hZ _ (pp ?_)
    try simp only [Int.ofNat_lt, hi7', if_true, if_false] at h
    refine Wk_cond_f rfl (Wk_exit (pp ?_))
    refine Wk_seq (Wk_regionZ fun Z hZ => ?_)
    simp only [go_sem, seval, hc4, hi7']
    refine hZ _ (pp ?_)
    refine Wk_ret (pp ?_)
    cases h
    simp only [go_sem, seval, hc4, hi7']
    exact ⟨_, rfl, RokI.h, PureI.h⟩
  rw [hd10] at h
  simp only [ref24_Same_L1] at h
  have hw9 := wrap_succ hi7' hl5
  refine Wk_seq (Wk_seq (Wk_regionZ fun Z hZ => ?_))
  simp only [go_sem, seval, hc4, hx8, hi7', hw9]
  refine hZ _ (pp ?_)
  try simp only [Int.ofNat_lt, hi7', if_true, if_false] at h
  refine Wk_cond_t rfl (Wk_skip (pp ?_))
  refine Wk_seq (Wk_block (Wk_seq ?_))
  try rw [gx_nat hx8] at h
  obtain ⟨x4, hb11, hx12, h⟩ := gx_some h
  try simp only [Int.toNat_natCast, Int.reduceToNat, Int.toNat_zero] at hx12
  try simp only [Int.ofNat_lt, Int.natCast_nonneg, true_and] at hb11
  obtain ⟨r5, hr13, h⟩ := Option.bind_eq_some_iff.1 h
  refine Wk_regionD fun Z hZ => ?_
  simp only [go_sem, seval, hc4, hx8, hi7', hw9, hb11, hx12, hr13]
  repeat with_reducible refine and_bar (by kernel_rfl) ?_
  refine hZ _ (by kernel_rfl) (pp ?_)
  refine Wk_cond_nbool rfl (fun hc14 => ?_) (fun hc14 => ?_)
  · rw [if_neg (ne_true_of_eq_false hc14)] at h
    refine Wk_seq (Wk_regionZ fun Z hZ => ?_)
    simp only [go_sem, seval, hc4, hx8, hi7', hw9, hb11, hx12, hr13, hc14]
    refine hZ _ (pp ?_)
    refine Wk_ret (pp ?_)
    cases h
    simp only [go_sem, seval, hc4, hx8, hi7', hw9, hb11, hx12, hr13, hc14]
    exact ⟨_, rfl, RokI.h, PureI.h⟩
  rw [if_pos hc14] at h
  refine Wk_skip (pp ?_)
  refine Wk_regionZ fun Z hZ => ?_
  simp only [go_sem, seval, hc4, hx8, hi7', hw9, hb11, hx12, hr13, hc14]
  refine hZ _ (pp ?_)
  first | refine ⟨(), ?_, h⟩ | refine ⟨hi7', (), ?_, h⟩
  refine weak_roots ?_ ?_ <;> repeat' first | exact xn | exact rn | refine xc ?_ ?_ | refine rc ?_ ?_ ?_ | rfl | simp only [go_sem, seval, Bool.or_self, List.length_set, Int.natCast_zero, Int.cast_ofNat_Int, hc4, hx8, hi7', hw9, hb11, hx12, hr13, hc14]
def fs_ref24_Same (N : Nat) : FnS := { own := [], pure := true, fn := fun cs => match cs with
  | [c0, c1] => (Actor.decA c0).bind fun qc0 => (Actor.decA c1).bind fun qc1 => (ref24_Same N qc0 qc1).map fun r => .val (.bool r)
  | _ => none }
attribute [go_sem] fs_ref24_Same
theorem fs_ref24_Same_ok (N : Nat) : FSOk Try.prog 26 (fs_ref24_Same N) := by
  refine ⟨fun cs r h => ?_, fun h => by cases h⟩
  simp only [fs_ref24_Same] at h
  split at h
  · simp only [Option.bind_eq_some_iff, Option.map_eq_some_iff] at h
    obtain ⟨q0, h0, q1, h1, r', hr, rfl⟩ := h
    exact ((w_ref24_Same N q0 q1 r' hr).args (LeL.cons (Actor.decA_le h0) (LeL.cons (Actor.decA_le h1) (LeL.nil))))
  · cases h


noncomputable def G_law24_TurnsBegin (N d f : Nat) : Option FnS := glist [(15, 9, fs_law24_awake N), (18, 10, fs_law24_Small N), (22, 11, fs_law24_request N), (28, 29, fs_turns_Begin N), (34, 30, fs_ref24_Begin N), (39, 31, fs_turns_End N), (45, 32, fs_ref24_End N), (51, 33, fs_turns_Admits N), (54, 34, fs_ref24_Admits N), (59, 26, fs_ref24_Same N), (69, 26, fs_ref24_Same N), (74, 25, fs_ref24_SameRequest N)] d f
attribute [go_sem] G_law24_TurnsBegin
set_option maxHeartbeats 40000000 in
theorem w_law24_TurnsBegin (N : Nat) (a0 : Actor) (a1 : Request) (r : Bool) (h : law24_TurnsBegin N a0 a1 = some r) : Con Try.prog 4 [] true [.agg (Actor.row a0), .agg (Request.row a1)] (.val (.bool r)) := by
  refine fun_ok4 (G := (G_law24_TurnsBegin N)) Try.func4 rfl (by decide) (by kernel_rfl) (gc 15 (fs_law24_awake_ok N) (gc 18 (fs_law24_Small_ok N) (gc 22 (fs_law24_request_ok N) (gc 28 (fs_turns_Begin_ok N) (gc 34 (fs_ref24_Begin_ok N) (gc 39 (fs_turns_End_ok N) (gc 45 (fs_ref24_End_ok N) (gc 51 (fs_turns_Admits_ok N) (gc 54 (fs_ref24_Admits_ok N) (gc 59 (fs_ref24_Same_ok N) (gc 69 (fs_ref24_Same_ok N) (gc 74 (fs_ref24_SameRequest_ok N) gn)))))))))))) [] mix (Nat.le_of_ble_eq_true rfl) ?_
  simp only [Try.f4]
  unfold law24_TurnsBegin at h
  refine Wk_seq (Wk_regionZ fun Z hZ => ?_)
  simp only [go_sem, seval]
  refine hZ _ (pp ?_)
  refine Wk_seq (Wk_seq ?_)
  obtain ⟨r1, hr1, h⟩ := Option.bind_eq_some_iff.1 h
  refine Wk_regionZ fun Z hZ => ?_
  simp only [go_sem, seval, hr1]
  refine hZ _ (pp ?_)
  refine Wk_cond_nbool rfl (fun hc2 => ?_) (fun hc2 => ?_)
  · rw [if_neg (ne_true_of_eq_false hc2)] at h
    refine Wk_seq (Wk_regionZ fun Z hZ => ?_)
    simp only [go_sem, seval, hr1, hc2]
    refine hZ _ (pp ?_)
    refine Wk_ret (pp ?_)
    cases h
    simp only [go_sem, seval, hr1, hc2]
    exact ⟨_, rfl, RokI.h, PureI.h⟩
  rw [if_pos hc2] at h
  refine Wk_skip (pp ?_)
  refine Wk_seq ?_
  apply Wk_join1 (fun (c8 : Bool) => ⟨tab 81 (updT (updT (updT deadT 2 (.pref 2 [] 0 0)) 3 (.pref 3 [] 0 0)) 24 (.val (.bool c8))), (upd (upd RZ 2 (.sl true none 4 (some 1) [Actor.row a0])) 3 (.sl true none 9 (some 1) [Request.row a1]))⟩)
  · intro hJ3
    obtain ⟨r9, hr4, h⟩ := Option.bind_eq_some_iff.1 h
    refine Wk_regionZ fun Z hZ => ?_
    simp only [go_sem, seval, hr1, hc2, hr4]
    refine RX_guard_nbool rfl (fun hc5 => ?_) (fun hc5 => ?_)
    · rw [if_neg (ne_true_of_eq_false hc5)] at h
      simp only [go_sem, seval, hr1, hc2, hr4, hc5]
      refine hZ _ (pp ?_)
      refine hJ3 _ true ?_ h
      refine weak_roots ?_ ?_ <;> repeat' first | exact xn | exact rn | refine xc ?_ ?_ | refine rc ?_ ?_ ?_ | rfl | simp only [go_sem, seval, Bool.or_self, List.length_set, Int.natCast_zero, Int.cast_ofNat_Int, hr1, hc2, hr4, hc5]
    rw [if_pos hc5] at h
    obtain ⟨r10, hr6, h⟩ := Option.bind_eq_some_iff.1 h
    simp only [go_sem, seval, hr1, hc2, hr4, hc5, hr6]
    refine hZ _ (pp ?_)
    refine hJ3 _ (!r10) ?_ h
    refine weak_roots ?_ ?_ <;> repeat' first | exact xn | exact rn | refine xc ?_ ?_ | refine rc ?_ ?_ ?_ | rfl | simp only [go_sem, seval, Bool.or_self, List.length_set, Int.natCast_zero, Int.cast_ofNat_Int, hr1, hc2, hr4, hc5, hr6]
  intro c8 h
  unfold law24_TurnsBegin_J1 at h
  refine Wk_cond_bool rfl (fun hc7 => ?_) (fun hc7 => ?_)
  · rw [if_pos hc7] at h
    refine Wk_seq (Wk_regionZ fun Z hZ => ?_)
    simp only [go_sem, seval, hr1, hc2, hc7]
    refine hZ _ (pp ?_)
    refine Wk_ret (pp ?_)
    cases h
    simp only [go_sem, seval, hr1, hc2, hc7]
    exact ⟨_, rfl, RokI.h, PureI.h⟩
  rw [if_neg (ne_true_of_eq_false hc7)] at h
  refine Wk_skip (pp ?_)
  unfold law24_TurnsBegin_J2 at h
  refine Wk_seq ?_
  obtain ⟨r11, hr8, h⟩ := Option.bind_eq_some_iff.1 h
  refine Wk_regionZ fun Z hZ => ?_
  simp only [go_sem, seval, hr1, hc2, hc7, hr8]
  refine hZ _ (pp ?_)
  refine Wk_seq ?_
  obtain ⟨r12, hr9, h⟩ := Option.bind_eq_some_iff.1 h
  refine Wk_regionZ fun Z hZ => ?_
  simp only [go_sem, seval, hr1, hc2, hc7, hr8, hr9]
  refine hZ _ (pp ?_)
  refine Wk_seq ?_
  obtain ⟨r13, hr10, h⟩ := Option.bind_eq_some_iff.1 h
  refine Wk_regionZ fun Z hZ => ?_
  simp only [go_sem, seval, hr1, hc2, hc7, hr8, hr9, hr10]
  refine hZ _ (pp ?_)
  refine Wk_seq ?_
  obtain ⟨r14, hr11, h⟩ := Option.bind_eq_some_iff.1 h
  refine Wk_regionZ fun Z hZ => ?_
  simp only [go_sem, seval, hr1, hc2, hc7, hr8, hr9, hr10, hr11]
  refine hZ _ (pp ?_)
  refine Wk_seq ?_
  obtain ⟨r15, hr12, h⟩ := Option.bind_eq_some_iff.1 h
  obtain ⟨r16, hr13, h⟩ := Option.bind_eq_some_iff.1 h
  refine Wk_regionD fun Z hZ => ?_
  simp only [go_sem, seval, hr1, hc2, hc7, hr8, hr9, hr10, hr11, hr12, hr13]
  repeat with_reducible refine and_bar (by kernel_rfl) ?_
  refine sw (RX_guard_dec rfl) (fun hc14 => ?_) (fun hc14 => ?_)
  · have hc14d := decide_eq_false hc14
    first | rw [if_neg hc14] at h | rw [if_neg (ne_true_of_eq_false hc14d)] at h
    simp only [go_sem, seval, hr1, hc2, hc7, hr8, hr9, hr10, hr11, hr12, hr13, hc14d]
    repeat with_reducible refine and_bar (by kernel_rfl) ?_
    refine hZ _ (by kernel_rfl) (pp ?_)
    refine Wk_ret (pp ?_)
    cases h
    simp only [go_sem, seval, hr1, hc2, hc7, hr8, hr9, hr10, hr11, hr12, hr13, hc14d]
    exact ⟨_, rfl, RokI.h, PureI.h⟩
  have hc14d := decide_eq_true hc14
  first | rw [if_pos hc14] at h | rw [if_pos hc14d] at h
  obtain ⟨r17, hr15, h⟩ := Option.bind_eq_some_iff.1 h
  simp only [go_sem, seval, hr1, hc2, hc7, hr8, hr9, hr10, hr11, hr12, hr13, hc14d, hr15]
  repeat with_reducible refine and_bar (by kernel_rfl) ?_
  refine sw (RX_guard_bool rfl) (fun hc16 => ?_) (fun hc16 => ?_)
  · rw [if_neg (ne_true_of_eq_false hc16)] at h
    simp only [go_sem, seval, hr1, hc2, hc7, hr8, hr9, hr10, hr11, hr12, hr13, hc14d, hr15, hc16]
    repeat with_reducible refine and_bar (by kernel_rfl) ?_
    refine hZ _ (by kernel_rfl) (pp ?_)
    refine Wk_ret (pp ?_)
    cases h
    simp only [go_sem, seval, hr1, hc2, hc7, hr8, hr9, hr10, hr11, hr12, hr13, hc14d, hr15, hc16]
    exact ⟨_, rfl, RokI.h, PureI.h⟩
  rw [if_pos hc16] at h
  simp only [go_sem, seval, hr1, hc2, hc7, hr8, hr9, hr10, hr11, hr12, hr13, hc14d, hr15, hc16]
  repeat with_reducible refine and_bar (by kernel_rfl) ?_
  refine sw (RX_guard_dec rfl) (fun hc17 => ?_) (fun hc17 => ?_)
  · have hc17d := decide_eq_false hc17
    first | rw [if_neg hc17] at h | rw [if_neg (ne_true_of_eq_false hc17d)] at h
    simp only [go_sem, seval, hr1, hc2, hc7, hr8, hr9, hr10, hr11, hr12, hr13, hc14d, hr15, hc16, hc17d]
    repeat with_reducible refine and_bar (by kernel_rfl) ?_
    refine hZ _ (by kernel_rfl) (pp ?_)
    refine Wk_ret (pp ?_)
    cases h
    simp only [go_sem, seval, hr1, hc2, hc7, hr8, hr9, hr10, hr11, hr12, hr13, hc14d, hr15, hc16, hc17d]
    exact ⟨_, rfl, RokI.h, PureI.h⟩
  have hc17d := decide_eq_true hc17
  first | rw [if_pos hc17] at h | rw [if_pos hc17d] at h
  obtain ⟨r18, hr18, h⟩ := Option.bind_eq_some_iff.1 h
  simp only [go_sem, seval, hr1, hc2, hc7, hr8, hr9, hr10, hr11, hr12, hr13, hc14d, hr15, hc16, hc17d, hr18]
  repeat with_reducible refine and_bar (by kernel_rfl) ?_
  refine sw (RX_guard_bool rfl) (fun hc19 => ?_) (fun hc19 => ?_)
  · rw [if_neg (ne_true_of_eq_false hc19)] at h
    simp only [go_sem, seval, hr1, hc2, hc7, hr8, hr9, hr10, hr11, hr12, hr13, hc14d, hr15, hc16, hc17d, hr18, hc19]
    repeat with_reducible refine and_bar (by kernel_rfl) ?_
    refine hZ _ (by kernel_rfl) (pp ?_)
    refine Wk_ret (pp ?_)
    cases h
    simp only [go_sem, seval, hr1, hc2, hc7, hr8, hr9, hr10, hr11, hr12, hr13, hc14d, hr15, hc16, hc17d, hr18, hc19]
    exact ⟨_, rfl, RokI.h, PureI.h⟩
  rw [if_pos hc19] at h
  obtain ⟨r19, hr20, h⟩ := Option.bind_eq_some_iff.1 h
  simp only [go_sem, seval, hr1, hc2, hc7, hr8, hr9, hr10, hr11, hr12, hr13, hc14d, hr15, hc16, hc17d, hr18, hc19, hr20]
  repeat with_reducible refine and_bar (by kernel_rfl) ?_
  refine RX_guard_bool rfl (fun hc21 => ?_) (fun hc21 => ?_)
  · rw [if_pos hc21] at h
    simp only [go_sem, seval, hr1, hc2, hc7, hr8, hr9, hr10, hr11, hr12, hr13, hc14d, hr15, hc16, hc17d, hr18, hc19, hr20, hc21]
    repeat with_reducible refine and_bar (by kernel_rfl) ?_
    refine hZ _ (by kernel_rfl) (pp ?_)
    refine Wk_ret (pp ?_)
    cases h
    simp only [go_sem, seval, hr1, hc2, hc7, hr8, hr9, hr10, hr11, hr12, hr13, hc14d, hr15, hc16, hc17d, hr18, hc19, hr20, hc21]
    exact ⟨_, rfl, RokI.h, PureI.h⟩
  rw [if_neg (ne_true_of_eq_false hc21)] at h
  simp only [go_sem, seval, hr1, hc2, hc7, hr8, hr9, hr10, hr11, hr12, hr13, hc14d, hr15, hc16, hc17d, hr18, hc19, hr20, hc21]
  repeat with_reducible refine and_bar (by kernel_rfl) ?_
  refine hZ _ (by kernel_rfl) (pp ?_)
  refine Wk_ret (pp ?_)
  cases h
  simp only [go_sem, seval, hr1, hc2, hc7, hr8, hr9, hr10, hr11, hr12, hr13, hc14d, hr15, hc16, hc17d, hr18, hc19, hr20, hc21]
  exact ⟨_, rfl, RokI.h, PureI.h⟩
def fs_law24_TurnsBegin (N : Nat) : FnS := { own := [], pure := true, fn := fun cs => match cs with
  | [c0, c1] => (Actor.decA c0).bind fun qc0 => (Request.decA c1).bind fun qc1 => (law24_TurnsBegin N qc0 qc1).map fun r => .val (.bool r)
  | _ => none }
attribute [go_sem] fs_law24_TurnsBegin
theorem fs_law24_TurnsBegin_ok (N : Nat) : FSOk Try.prog 4 (fs_law24_TurnsBegin N) := by
  refine ⟨fun cs r h => ?_, fun h => by cases h⟩
  simp only [fs_law24_TurnsBegin] at h
  split at h
  · simp only [Option.bind_eq_some_iff, Option.map_eq_some_iff] at h
    obtain ⟨q0, h0, q1, h1, r', hr, rfl⟩ := h
    exact ((w_law24_TurnsBegin N q0 q1 r' hr).args (LeL.cons (Actor.decA_le h0) (LeL.cons (Request.decA_le h1) (LeL.nil))))
  · cases h

end Go.Proofs.Ytmgpaicldmgckaa
