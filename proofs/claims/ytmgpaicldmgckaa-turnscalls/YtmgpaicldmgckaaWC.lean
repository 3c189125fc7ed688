import Derived.Test.YtmgpaicldmgckaaB
import Derived.Test.YtmgpaicldmgckaaWB
/- Each Go function computes its model: proofs laid by a program of ours. -/
set_option synthInstance.maxHeartbeats 2000000
set_option synthInstance.maxSize 4000
set_option linter.unusedSimpArgs false
set_option linter.unusedVariables false
set_option maxRecDepth 100000
namespace Go.Proofs.Ytmgpaicldmgckaa
open Go Go.Proofs Go.Abs
noncomputable def G_ref24_turn (N d f : Nat) : Option FnS := glist [(15, 18, fs_ref24_ValidRequest N), (47, 24, fs_ref24_Descends N), (59, 53, fs_ref24_running N), (80, 45, fs_ref24_SameReply N), (85, 18, fs_ref24_ValidRequest N), (129, 48, fs_ref1_SameInts N), (144, 70, fs_ref24_SameRefs N), (153, 45, fs_ref24_SameReply N), (159, 20, fs_ref24_ValidReply N), (172, 22, fs_ref24_SameID N)] d f
attribute [go_sem] G_ref24_turn
set_option maxHeartbeats 40000000 in
theorem w_ref24_turn (N : Nat) (a0 : Actor) (a1 : Int) (r : Bool) (h : ref24_turn N a0 a1 = some r) : Con Try.prog 58 [] true [.agg (Actor.row a0), .val (.int .i64 a1)] (.val (.bool r)) := by
  refine fun_ok4 (G := (G_ref24_turn N)) Try.func58 rfl (by decide) (by kernel_rfl) (gc 15 (fs_ref24_ValidRequest_ok N) (gc 47 (fs_ref24_Descends_ok N) (gc 59 (fs_ref24_running_ok N) (gc 80 (fs_ref24_SameReply_ok N) (gc 85 (fs_ref24_ValidRequest_ok N) (gc 129 (fs_ref1_SameInts_ok N) (gc 144 (fs_ref24_SameRefs_ok N) (gc 153 (fs_ref24_SameReply_ok N) (gc 159 (fs_ref24_ValidReply_ok N) (gc 172 (fs_ref24_SameID_ok N) gn)))))))))) [] mix (Nat.le_of_ble_eq_true rfl) ?_
  simp only [Try.f58]
  unfold ref24_turn at h
  refine Wk_seq (Wk_regionZ fun Z hZ => ?_)
  simp only [go_sem, seval]
  refine hZ _ (pp ?_)
  refine Wk_seq ?_
  obtain ⟨x1, hb1, hx2, h⟩ := gx_some h
  refine Wk_regionZ fun Z hZ => ?_
  simp only [go_sem, seval, hb1, hx2]
  refine hZ _ (pp ?_)
  refine Wk_seq ?_
  apply Wk_join1 (fun (c6 : Bool) => ⟨tab 174 (updT (updT (updT (updT deadT 1 (.val (.int .i64 a1))) 2 (.pref 2 [] 0 0)) 5 (.pref 5 [] 0 0)) 34 (.val (.bool c6))), (upd (upd RZ 2 (.sl true none 4 (some 1) [Actor.row a0])) 5 (.sl true none 30 (some 1) [Turn.row x1]))⟩)
  · intro hJ3
    obtain ⟨r7, hr4, h⟩ := Option.bind_eq_some_iff.1 h
    refine Wk_regionZ fun Z hZ => ?_
    simp only [go_sem, seval, hb1, hx2, hr4]
    refine RX_guard_nbool rfl (fun hc5 => ?_) (fun hc5 => ?_)
    · rw [if_neg (ne_true_of_eq_false hc5)] at h
      simp only [go_sem, seval, hb1, hx2, hr4, hc5]
      refine hZ _ (pp ?_)
      refine hJ3 _ true ?_ h
      refine weak_roots ?_ ?_ <;> repeat' first | exact xn | exact rn | refine xc ?_ ?_ | refine rc ?_ ?_ ?_ | rfl | simp only [go_sem, seval, Bool.or_self, List.length_set, Int.natCast_zero, Int.cast_ofNat_Int, hb1, hx2, hr4, hc5]
    rw [if_pos hc5] at h
    simp only [go_sem, seval, hb1, hx2, hr4, hc5]
    refine RX_guard_nbool rfl (fun hc6 => ?_) (fun hc6 => ?_)
    · rw [if_neg (ne_true_of_eq_false hc6)] at h
      simp only [go_sem, seval, hb1, hx2, hr4, hc5, hc6]
      refine hZ _ (pp ?_)
      refine hJ3 _ true ?_ h
      refine weak_roots ?_ ?_ <;> repeat' first | exact xn | exact rn | refine xc ?_ ?_ | refine rc ?_ ?_ ?_ | rfl | simp only [go_sem, seval, Bool.or_self, List.length_set, Int.natCast_zero, Int.cast_ofNat_Int, hb1, hx2, hr4, hc5, hc6]
    rw [if_pos hc6] at h
    simp only [go_sem, seval, hb1, hx2, hr4, hc5, hc6]
    refine RX_guard_dec rfl (fun hc7 => ?_) (fun hc7 => ?_)
    · have hc7d := decide_eq_true hc7
      first | rw [if_pos hc7] at h | rw [if_pos hc7d] at h
      simp only [go_sem, seval, hb1, hx2, hr4, hc5, hc6, hc7d]
      refine hZ _ (pp ?_)
      refine hJ3 _ true ?_ h
      refine weak_roots ?_ ?_ <;> repeat' first | exact xn | exact rn | refine xc ?_ ?_ | refine rc ?_ ?_ ?_ | rfl | simp only [go_sem, seval, Bool.or_self, List.length_set, Int.natCast_zero, Int.cast_ofNat_Int, hb1, hx2, hr4, hc5, hc6, hc7d]
    have hc7d := decide_eq_false hc7
    first | rw [if_neg hc7] at h | rw [if_neg (ne_true_of_eq_false hc7d)] at h
    simp only [go_sem, seval, hb1, hx2, hr4, hc5, hc6, hc7d]
    refine hZ _ (pp ?_)
    refine hJ3 _ (decide (1099511627776 < x1.Calls)) ?_ h
    refine weak_roots ?_ ?_ <;> repeat' first | exact xn | exact rn | refine xc ?_ ?_ | refine rc ?_ ?_ ?_ | rfl | simp only [go_sem, seval, Bool.or_self, List.length_set, Int.natCast_zero, Int.cast_ofNat_Int, hb1, hx2, hr4, hc5, hc6, hc7d]
  intro c6 h
  unfold ref24_turn_J1 at h
  refine Wk_cond_bool rfl (fun hc8 => ?_) (fun hc8 => ?_)
  · rw [if_pos hc8] at h
    refine Wk_seq (Wk_regionZ fun Z hZ => ?_)
    simp only [go_sem, seval, hb1, hx2, hc8]
    refine hZ _ (pp ?_)
    refine Wk_ret (pp ?_)
    cases h
    simp only [go_sem, seval, hb1, hx2, hc8]
    exact ⟨_, rfl, RokI.h, PureI.h⟩
  rw [if_neg (ne_true_of_eq_false hc8)] at h
  refine Wk_skip (pp ?_)
  unfold ref24_turn_J6 at h
  apply Wk_join0 ⟨tab 174 (updT (updT (updT deadT 1 (.val (.int .i64 a1))) 2 (.pref 2 [] 0 0)) 5 (.pref 5 [] 0 0)), (upd (upd RZ 2 (.sl true none 4 (some 1) [Actor.row a0])) 5 (.sl true none 30 (some 1) [Turn.row x1]))⟩
  · intro hJ9
    refine Wk_seq (Wk_regionZ fun Z hZ => ?_)
    simp only [go_sem, seval, hb1, hx2, hc8]
    refine hZ _ (pp ?_)
    refine sw (Wk_cond_dec rfl) (fun hc10 => ?_) (fun hc10 => ?_)
    · have hc10d := decide_eq_false hc10
      first | rw [if_neg hc10] at h | rw [if_neg (ne_true_of_eq_false hc10d)] at h
      refine Wk_skip (pp ?_)
      refine hJ9 _  ?_ h
      refine weak_roots ?_ ?_ <;> repeat' first | exact xn | exact rn | refine xc ?_ ?_ | refine rc ?_ ?_ ?_ | rfl | simp only [go_sem, seval, Bool.or_self, List.length_set, Int.natCast_zero, Int.cast_ofNat_Int, hb1, hx2, hc8, hc10d]
    have hc10d := decide_eq_true hc10
    first | rw [if_pos hc10] at h | rw [if_pos hc10d] at h
    refine Wk_seq ?_
    obtain ⟨x12, hb11, hx12, h⟩ := gx_some h
    refine Wk_regionZ fun Z hZ => ?_
    simp only [go_sem, seval, hb1, hx2, hc8, hc10d, hb11, hx12]
    refine hZ _ (pp ?_)
    apply Wk_join1 (fun (c14 : Bool) => ⟨tab 174 (updT (updT (updT (updT deadT 1 (.val (.int .i64 a1))) 2 (.pref 2 [] 0 0)) 5 (.pref 5 [] 0 0)) 57 (.val (.bool c14))), (upd (upd RZ 2 (.sl true none 4 (some 1) [Actor.row a0])) 5 (.sl true none 30 (some 1) [Turn.row x1]))⟩)
    · intro hJ13
      obtain ⟨r15, hr14, h⟩ := Option.bind_eq_some_iff.1 h
      refine Wk_regionZ fun Z hZ => ?_
      simp only [go_sem, seval, hb1, hx2, hc8, hc10d, hb11, hx12, hr14]
      refine RX_guard_nbool rfl (fun hc15 => ?_) (fun hc15 => ?_)
      · rw [if_neg (ne_true_of_eq_false hc15)] at h
        simp only [go_sem, seval, hb1, hx2, hc8, hc10d, hb11, hx12, hr14, hc15]
        refine hZ _ (pp ?_)
        refine hJ13 _ true ?_ h
        refine weak_roots ?_ ?_ <;> repeat' first | exact xn | exact rn | refine xc ?_ ?_ | refine rc ?_ ?_ ?_ | rfl | simp only [go_sem, seval, Bool.or_self, List.length_set, Int.natCast_zero, Int.cast_ofNat_Int, hb1, hx2, hc8, hc10d, hb11, hx12, hr14, hc15]
      rw [if_pos hc15] at h
      simp only [go_sem, seval, hb1, hx2, hc8, hc10d, hb11, hx12, hr14, hc15]
      refine RX_guard_nbool rfl (fun hc16 => ?_) (fun hc16 => ?_)
      · rw [if_neg (ne_true_of_eq_false hc16)] at h
        simp only [go_sem, seval, hb1, hx2, hc8, hc10d, hb11, hx12, hr14, hc15, hc16]
        refine hZ _ (pp ?_)
        refine hJ13 _ true ?_ h
        refine weak_roots ?_ ?_ <;> repeat' first | exact xn | exact rn | refine xc ?_ ?_ | refine rc ?_ ?_ ?_ | rfl | simp only [go_sem, seval, Bool.or_self, List.length_set, Int.natCast_zero, Int.cast_ofNat_Int, hb1, hx2, hc8, hc10d, hb11, hx12, hr14, hc15, hc16]
      rw [if_pos hc16] at h
      simp only [go_sem, seval, hb1, hx2, hc8, hc10d, hb11, hx12, hr14, hc15, hc16]
      refine hZ _ (pp ?_)
      refine hJ13 _ x12.Done ?_ h
      refine weak_roots ?_ ?_ <;> repeat' first | exact xn | exact rn | refine xc ?_ ?_ | refine rc ?_ ?_ ?_ | rfl | simp only [go_sem, seval, Bool.or_self, List.length_set, Int.natCast_zero, Int.cast_ofNat_Int, hb1, hx2, hc8, hc10d, hb11, hx12, hr14, hc15, hc16]
    intro c14 h
    unfold ref24_turn_J2 at h
    refine Wk_cond_bool rfl (fun hc17 => ?_) (fun hc17 => ?_)
    · rw [if_pos hc17] at h
      refine Wk_seq (Wk_regionZ fun Z hZ => ?_)
      simp only [go_sem, seval, hb1, hx2, hc8, hc10d, hb11, hx12, hc17]
      refine hZ _ (pp ?_)
      refine Wk_ret (pp ?_)
      cases h
      simp only [go_sem, seval, hb1, hx2, hc8, hc10d, hb11, hx12, hc17]
      exact ⟨_, rfl, RokI.h, PureI.h⟩
    rw [if_neg (ne_true_of_eq_false hc17)] at h
    refine Wk_skip (pp ?_)
    refine hJ9 _  ?_ h
    refine weak_roots ?_ ?_ <;> repeat' first | exact xn | exact rn | refine xc ?_ ?_ | refine rc ?_ ?_ ?_ | rfl | simp only [go_sem, seval, Bool.or_self, List.length_set, Int.natCast_zero, Int.cast_ofNat_Int, hb1, hx2, hc8, hc10d, hb11, hx12, hc17]
  intro  h
  unfold ref24_turn_J5 at h
  refine Wk_seq (Wk_seq ?_)
  obtain ⟨r16, hr18, h⟩ := Option.bind_eq_some_iff.1 h
  refine Wk_regionZ fun Z hZ => ?_
  simp only [go_sem, seval, hb1, hx2, hc8, hr18]
  refine hZ _ (pp ?_)
  refine Wk_cond_bool rfl (fun hc19 => ?_) (fun hc19 => ?_)
  · rw [if_pos hc19] at h
    refine Wk_seq (Wk_regionZ fun Z hZ => ?_)
    simp only [go_sem, seval, hb1, hx2, hc8, hr18, hc19]
    refine sw (RX_guard_dec rfl) (fun hc20 => ?_) (fun hc20 => ?_)
    · have hc20d := decide_eq_false hc20
      first | rw [if_neg hc20] at h | rw [if_neg (ne_true_of_eq_false hc20d)] at h
      simp only [go_sem, seval, hb1, hx2, hc8, hr18, hc19, hc20d]
      refine hZ _ (pp ?_)
      refine Wk_ret (pp ?_)
      cases h
      simp only [go_sem, seval, hb1, hx2, hc8, hr18, hc19, hc20d]
      exact ⟨_, rfl, RokI.h, PureI.h⟩
    have hc20d := decide_eq_true hc20
    first | rw [if_pos hc20] at h | rw [if_pos hc20d] at h
    simp only [go_sem, seval, hb1, hx2, hc8, hr18, hc19, hc20d]
    refine sw (RX_guard_nbool rfl) (fun hc21 => ?_) (fun hc21 => ?_)
    · rw [if_pos hc21] at h
      simp only [go_sem, seval, hb1, hx2, hc8, hr18, hc19, hc20d, hc21]
      refine hZ _ (pp ?_)
      refine Wk_ret (pp ?_)
      cases h
      simp only [go_sem, seval, hb1, hx2, hc8, hr18, hc19, hc20d, hc21]
      exact ⟨_, rfl, RokI.h, PureI.h⟩
    rw [if_neg (ne_true_of_eq_false hc21)] at h
    simp only [go_sem, seval, hb1, hx2, hc8, hr18, hc19, hc20d, hc21]
    refine RX_guard_nbool rfl (fun hc22 => ?_) (fun hc22 => ?_)
    · rw [if_neg (ne_true_of_eq_false hc22)] at h
      obtain ⟨r17, hr23, h⟩ := Option.bind_eq_some_iff.1 h
      simp only [go_sem, seval, hb1, hx2, hc8, hr18, hc19, hc20d, hc21, hc22, hr23]
      refine hZ _ (pp ?_)
      refine Wk_ret (pp ?_)
      cases h
      simp only [go_sem, seval, hb1, hx2, hc8, hr18, hc19, hc20d, hc21, hc22, hr23]
      exact ⟨_, rfl, RokI.h, PureI.h⟩
    rw [if_pos hc22] at h
    simp only [go_sem, seval, hb1, hx2, hc8, hr18, hc19, hc20d, hc21, hc22]
    refine hZ _ (pp ?_)
    refine Wk_ret (pp ?_)
    cases h
    simp only [go_sem, seval, hb1, hx2, hc8, hr18, hc19, hc20d, hc21, hc22]
    exact ⟨_, rfl, RokI.h, PureI.h⟩
  rw [if_neg (ne_true_of_eq_false hc19)] at h
  refine Wk_skip (pp ?_)
  refine Wk_seq (Wk_regionZ fun Z hZ => ?_)
  simp only [go_sem, seval, hb1, hx2, hc8, hr18, hc19]
  refine hZ _ (pp ?_)
  refine Wk_seq ?_
  apply Wk_join1 (fun (c30 : Bool) => ⟨tab 174 (updT (updT (updT deadT 5 (.pref 5 [] 0 0)) 7 (.pref 7 [] 0 0)) 146 (.val (.bool c30))), (upd (upd RZ 5 (.sl true none 30 (some 1) [Turn.row x1])) 7 (.sl true none 9 (some 1) [Request.row x1.Call]))⟩)
  · intro hJ24
    obtain ⟨r31, hr25, h⟩ := Option.bind_eq_some_iff.1 h
    refine Wk_regionH fun Y hY => ?_
    refine RX2_s rfl rfl fun Z hZ => ?_
    simp only [go_sem, seval, hb1, hx2, hc8, hr18, hc19, hr25]
    repeat with_reducible refine and_bar (by kernel_rfl) ?_
    refine hZ _ ?_
    refine RX2_s rfl rfl fun Z hZ => ?_
    simp only [go_sem, seval, hb1, hx2, hc8, hr18, hc19, hr25]
    repeat with_reducible refine and_bar (by kernel_rfl) ?_
    refine hZ _ ?_
    refine RX2_s rfl rfl fun Z hZ => ?_
    simp only [go_sem, seval, hb1, hx2, hc8, hr18, hc19, hr25]
    repeat with_reducible refine and_bar (by kernel_rfl) ?_
    refine hZ _ ?_
    refine RX2_s rfl rfl fun Z hZ => ?_
    simp only [go_sem, seval, hb1, hx2, hc8, hr18, hc19, hr25]
    repeat with_reducible refine and_bar (by kernel_rfl) ?_
    refine hZ _ ?_
    refine RX2_guard_nbool rfl (fun hc26 => ?_) (fun hc26 => ?_)
    · rw [if_neg (ne_true_of_eq_false hc26)] at h
      refine RX2_norm fun Z hZ => ?_
      simp only [hc26, Bool.not_true, Bool.not_false]
      refine hZ _ ?_
      refine RX2_g rfl fun Z hZ => ?_
      simp only [go_sem, seval, hb1, hx2, hc8, hr18, hc19, hr25, hc26]
      repeat with_reducible refine and_bar (by kernel_rfl) ?_
      refine hZ _ ?_
      refine RX2_g rfl fun Z hZ => ?_
      simp only [go_sem, seval, hb1, hx2, hc8, hr18, hc19, hr25, hc26]
      repeat with_reducible refine and_bar (by kernel_rfl) ?_
      refine hZ _ ?_
      refine RX2_g rfl fun Z hZ => ?_
      simp only [go_sem, seval, hb1, hx2, hc8, hr18, hc19, hr25, hc26]
      repeat with_reducible refine and_bar (by kernel_rfl) ?_
      refine hZ _ ?_
      refine RX2_s rfl rfl fun Z hZ => ?_
      simp only [go_sem, seval, hb1, hx2, hc8, hr18, hc19, hr25, hc26]
      repeat with_reducible refine and_bar (by kernel_rfl) ?_
      refine hZ _ ?_
      refine RX2_s rfl rfl fun Z hZ => ?_
      simp only [go_sem, seval, hb1, hx2, hc8, hr18, hc19, hr25, hc26]
      repeat with_reducible refine and_bar (by kernel_rfl) ?_
      refine hZ _ ?_
      refine RX2_g rfl fun Z hZ => ?_
      simp only [go_sem, seval, hb1, hx2, hc8, hr18, hc19, hr25, hc26]
      repeat with_reducible refine and_bar (by kernel_rfl) ?_
      refine hZ _ ?_
      refine RX2_g rfl fun Z hZ => ?_
      simp only [go_sem, seval, hb1, hx2, hc8, hr18, hc19, hr25, hc26]
      repeat with_reducible refine and_bar (by kernel_rfl) ?_
      refine hZ _ ?_
      refine RX2_g rfl fun Z hZ => ?_
      simp only [go_sem, seval, hb1, hx2, hc8, hr18, hc19, hr25, hc26]
      repeat with_reducible refine and_bar (by kernel_rfl) ?_
      refine hZ _ ?_
      refine RX2_g rfl fun Z hZ => ?_
      simp only [go_sem, seval, hb1, hx2, hc8, hr18, hc19, hr25, hc26]
      repeat with_reducible refine and_bar (by kernel_rfl) ?_
      refine hZ _ ?_
      refine RX2_g rfl fun Z hZ => ?_
      simp only [go_sem, seval, hb1, hx2, hc8, hr18, hc19, hr25, hc26]
      repeat with_reducible refine and_bar (by kernel_rfl) ?_
      refine hZ _ ?_
      refine RX2_g rfl fun Z hZ => ?_
      simp only [go_sem, seval, hb1, hx2, hc8, hr18, hc19, hr25, hc26]
      repeat with_reducible refine and_bar (by kernel_rfl) ?_
      refine hZ _ ?_
      refine RX2_s rfl rfl fun Z hZ => ?_
      simp only [go_sem, seval, hb1, hx2, hc8, hr18, hc19, hr25, hc26]
      repeat with_reducible refine and_bar (by kernel_rfl) ?_
      refine hZ _ ?_
      refine RX2_s rfl rfl fun Z hZ => ?_
      simp only [go_sem, seval, hb1, hx2, hc8, hr18, hc19, hr25, hc26]
      repeat with_reducible refine and_bar (by kernel_rfl) ?_
      refine hZ _ ?_
      refine RX2_g rfl fun Z hZ => ?_
      simp only [go_sem, seval, hb1, hx2, hc8, hr18, hc19, hr25, hc26]
      repeat with_reducible refine and_bar (by kernel_rfl) ?_
      refine hZ _ ?_
      refine RX2_g rfl fun Z hZ => ?_
      simp only [go_sem, seval, hb1, hx2, hc8, hr18, hc19, hr25, hc26]
      repeat with_reducible refine and_bar (by kernel_rfl) ?_
      refine hZ _ ?_
      refine RX2_g rfl fun Z hZ => ?_
      simp only [go_sem, seval, hb1, hx2, hc8, hr18, hc19, hr25, hc26]
      repeat with_reducible refine and_bar (by kernel_rfl) ?_
      refine hZ _ ?_
      refine RX2_g rfl fun Z hZ => ?_
      simp only [go_sem, seval, hb1, hx2, hc8, hr18, hc19, hr25, hc26]
      repeat with_reducible refine and_bar (by kernel_rfl) ?_
      refine hZ _ ?_
      refine RX2_g rfl fun Z hZ => ?_
      simp only [go_sem, seval, hb1, hx2, hc8, hr18, hc19, hr25, hc26]
      repeat with_reducible refine and_bar (by kernel_rfl) ?_
      refine hZ _ ?_
      refine RX2_g rfl fun Z hZ => ?_
      simp only [go_sem, seval, hb1, hx2, hc8, hr18, hc19, hr25, hc26]
      repeat with_reducible refine and_bar (by kernel_rfl) ?_
      refine hZ _ ?_
      refine RX2_s rfl rfl fun Z hZ => ?_
      simp only [go_sem, seval, hb1, hx2, hc8, hr18, hc19, hr25, hc26]
      repeat with_reducible refine and_bar (by kernel_rfl) ?_
      refine hZ _ ?_
      refine RX2_s rfl rfl fun Z hZ => ?_
      simp only [go_sem, seval, hb1, hx2, hc8, hr18, hc19, hr25, hc26]
      repeat with_reducible refine and_bar (by kernel_rfl) ?_
      refine hZ _ ?_
      refine RX2_g rfl fun Z hZ => ?_
      simp only [go_sem, seval, hb1, hx2, hc8, hr18, hc19, hr25, hc26]
      repeat with_reducible refine and_bar (by kernel_rfl) ?_
      refine hZ _ ?_
      refine RX2_g rfl fun Z hZ => ?_
      simp only [go_sem, seval, hb1, hx2, hc8, hr18, hc19, hr25, hc26]
      repeat with_reducible refine and_bar (by kernel_rfl) ?_
      refine hZ _ ?_
      refine RX2_g rfl fun Z hZ => ?_
      simp only [go_sem, seval, hb1, hx2, hc8, hr18, hc19, hr25, hc26]
      repeat with_reducible refine and_bar (by kernel_rfl) ?_
      refine hZ _ ?_
      refine RX2_g rfl fun Z hZ => ?_
      simp only [go_sem, seval, hb1, hx2, hc8, hr18, hc19, hr25, hc26]
      repeat with_reducible refine and_bar (by kernel_rfl) ?_
      refine hZ _ ?_
      refine RX2_g rfl fun Z hZ => ?_
      simp only [go_sem, seval, hb1, hx2, hc8, hr18, hc19, hr25, hc26]
      repeat with_reducible refine and_bar (by kernel_rfl) ?_
      refine hZ _ ?_
      refine RX2_g rfl fun Z hZ => ?_
      simp only [go_sem, seval, hb1, hx2, hc8, hr18, hc19, hr25, hc26]
      repeat with_reducible refine and_bar (by kernel_rfl) ?_
      refine hZ _ ?_
      refine RX2_s rfl rfl fun Z hZ => ?_
      simp only [go_sem, seval, hb1, hx2, hc8, hr18, hc19, hr25, hc26]
      repeat with_reducible refine and_bar (by kernel_rfl) ?_
      refine hZ _ ?_
      refine RX2_s rfl rfl fun Z hZ => ?_
      simp only [go_sem, seval, hb1, hx2, hc8, hr18, hc19, hr25, hc26]
      repeat with_reducible refine and_bar (by kernel_rfl) ?_
      refine hZ _ ?_
      refine RX2_g rfl fun Z hZ => ?_
      simp only [go_sem, seval, hb1, hx2, hc8, hr18, hc19, hr25, hc26]
      repeat with_reducible refine and_bar (by kernel_rfl) ?_
      refine hZ _ ?_
      refine RX2_g rfl fun Z hZ => ?_
      simp only [go_sem, seval, hb1, hx2, hc8, hr18, hc19, hr25, hc26]
      repeat with_reducible refine and_bar (by kernel_rfl) ?_
      refine hZ _ ?_
      refine RX2_g rfl fun Z hZ => ?_
      simp only [go_sem, seval, hb1, hx2, hc8, hr18, hc19, hr25, hc26]
      repeat with_reducible refine and_bar (by kernel_rfl) ?_
      refine hZ _ ?_
      refine RX2_g rfl fun Z hZ => ?_
      simp only [go_sem, seval, hb1, hx2, hc8, hr18, hc19, hr25, hc26]
      repeat with_reducible refine and_bar (by kernel_rfl) ?_
      refine hZ _ ?_
      refine RX2_g rfl fun Z hZ => ?_
      simp only [go_sem, seval, hb1, hx2, hc8, hr18, hc19, hr25, hc26]
      repeat with_reducible refine and_bar (by kernel_rfl) ?_
      refine hZ _ ?_
      refine RX2_g rfl fun Z hZ => ?_
      simp only [go_sem, seval, hb1, hx2, hc8, hr18, hc19, hr25, hc26]
      repeat with_reducible refine and_bar (by kernel_rfl) ?_
      refine hZ _ ?_
      refine RX2_off rfl fun Z hZ => ?_
      simp only [go_sem, seval, hb1, hx2, hc8, hr18, hc19, hr25, hc26]
      repeat with_reducible refine and_bar (by kernel_rfl) ?_
      refine hZ _ ?_
      refine RX2_g rfl fun Z hZ => ?_
      simp only [go_sem, seval, hb1, hx2, hc8, hr18, hc19, hr25, hc26]
      repeat with_reducible refine and_bar (by kernel_rfl) ?_
      refine hZ _ ?_
      refine RX2_g rfl fun Z hZ => ?_
      simp only [go_sem, seval, hb1, hx2, hc8, hr18, hc19, hr25, hc26]
      repeat with_reducible refine and_bar (by kernel_rfl) ?_
      refine hZ _ ?_
      refine RX2_g rfl fun Z hZ => ?_
      simp only [go_sem, seval, hb1, hx2, hc8, hr18, hc19, hr25, hc26]
      repeat with_reducible refine and_bar (by kernel_rfl) ?_
      refine hZ _ ?_
      refine RX2_g rfl fun Z hZ => ?_
      simp only [go_sem, seval, hb1, hx2, hc8, hr18, hc19, hr25, hc26]
      repeat with_reducible refine and_bar (by kernel_rfl) ?_
      refine hZ _ ?_
      refine RX2_off rfl fun Z hZ => ?_
      simp only [go_sem, seval, hb1, hx2, hc8, hr18, hc19, hr25, hc26]
      repeat with_reducible refine and_bar (by kernel_rfl) ?_
      refine hZ _ ?_
      refine RX2_g rfl fun Z hZ => ?_
      simp only [go_sem, seval, hb1, hx2, hc8, hr18, hc19, hr25, hc26]
      repeat with_reducible refine and_bar (by kernel_rfl) ?_
      refine hZ _ ?_
      refine RX2_g rfl fun Z hZ => ?_
      simp only [go_sem, seval, hb1, hx2, hc8, hr18, hc19, hr25, hc26]
      repeat with_reducible refine and_bar (by kernel_rfl) ?_
      refine hZ _ ?_
      refine RX2_s rfl rfl fun Z hZ => ?_
      simp only [go_sem, seval, hb1, hx2, hc8, hr18, hc19, hr25, hc26]
      repeat with_reducible refine and_bar (by kernel_rfl) ?_
      refine hZ _ ?_
      refine RX2_s rfl rfl fun Z hZ => ?_
      simp only [go_sem, seval, hb1, hx2, hc8, hr18, hc19, hr25, hc26]
      repeat with_reducible refine and_bar (by kernel_rfl) ?_
      refine hZ _ ?_
      refine RX2_g rfl fun Z hZ => ?_
      simp only [go_sem, seval, hb1, hx2, hc8, hr18, hc19, hr25, hc26]
      repeat with_reducible refine and_bar (by kernel_rfl) ?_
      refine hZ _ ?_
      refine RX2_g rfl fun Z hZ => ?_
      simp only [go_sem, seval, hb1, hx2, hc8, hr18, hc19, hr25, hc26]
      repeat with_reducible refine and_bar (by kernel_rfl) ?_
      refine hZ _ ?_
      refine RX2_g rfl fun Z hZ => ?_
      simp only [go_sem, seval, hb1, hx2, hc8, hr18, hc19, hr25, hc26]
      repeat with_reducible refine and_bar (by kernel_rfl) ?_
      refine hZ _ ?_
      refine RX2_g rfl fun Z hZ => ?_
      simp only [go_sem, seval, hb1, hx2, hc8, hr18, hc19, hr25, hc26]
      repeat with_reducible refine and_bar (by kernel_rfl) ?_
      refine hZ _ ?_
      refine RX2_g rfl fun Z hZ => ?_
      simp only [go_sem, seval, hb1, hx2, hc8, hr18, hc19, hr25, hc26]
      repeat with_reducible refine and_bar (by kernel_rfl) ?_
      refine hZ _ ?_
      refine RX2_g rfl fun Z hZ => ?_
      simp only [go_sem, seval, hb1, hx2, hc8, hr18, hc19, hr25, hc26]
      repeat with_reducible refine and_bar (by kernel_rfl) ?_
      refine hZ _ ?_
      refine RX2_off rfl fun Z hZ => ?_
      simp only [go_sem, seval, hb1, hx2, hc8, hr18, hc19, hr25, hc26]
      repeat with_reducible refine and_bar (by kernel_rfl) ?_
      refine hZ _ ?_
      refine RX2_g rfl fun Z hZ => ?_
      simp only [go_sem, seval, hb1, hx2, hc8, hr18, hc19, hr25, hc26]
      repeat with_reducible refine and_bar (by kernel_rfl) ?_
      refine hZ _ ?_
      refine RX2_g rfl fun Z hZ => ?_
      simp only [go_sem, seval, hb1, hx2, hc8, hr18, hc19, hr25, hc26]
      repeat with_reducible refine and_bar (by kernel_rfl) ?_
      refine hZ _ ?_
      refine RX2_g rfl fun Z hZ => ?_
      simp only [go_sem, seval, hb1, hx2, hc8, hr18, hc19, hr25, hc26]
      repeat with_reducible refine and_bar (by kernel_rfl) ?_
      refine hZ _ ?_
      refine RX2_off rfl fun Z hZ => ?_
      simp only [go_sem, seval, hb1, hx2, hc8, hr18, hc19, hr25, hc26]
      repeat with_reducible refine and_bar (by kernel_rfl) ?_
      refine hZ _ ?_
      refine RX2_g rfl fun Z hZ => ?_
      simp only [go_sem, seval, hb1, hx2, hc8, hr18, hc19, hr25, hc26]
      repeat with_reducible refine and_bar (by kernel_rfl) ?_
      refine hZ _ ?_
      refine RX2_g rfl fun Z hZ => ?_
      simp only [go_sem, seval, hb1, hx2, hc8, hr18, hc19, hr25, hc26]
      repeat with_reducible refine and_bar (by kernel_rfl) ?_
      refine hZ _ ?_
      refine RX2_s rfl rfl fun Z hZ => ?_
      simp only [go_sem, seval, hb1, hx2, hc8, hr18, hc19, hr25, hc26]
      repeat with_reducible refine and_bar (by kernel_rfl) ?_
      refine hZ _ ?_
      refine RX2_end (by kernel_rfl) (hY _ (pp ?_))
      refine hJ24 _ true ?_ h
      refine weak_roots ?_ ?_ <;> repeat' first | exact xn | exact rn | refine xc ?_ ?_ | refine rc ?_ ?_ ?_ | rfl | simp only [go_sem, seval, Bool.or_self, List.length_set, Int.natCast_zero, Int.cast_ofNat_Int, hb1, hx2, hc8, hr18, hc19, hr25, hc26]
    rw [if_pos hc26] at h
    refine RX2_norm fun Z hZ => ?_
    simp only [hc26, Bool.not_true, Bool.not_false]
    refine hZ _ ?_
    refine RX2_g rfl fun Z hZ => ?_
    simp only [go_sem, seval, hb1, hx2, hc8, hr18, hc19, hr25, hc26]
    repeat with_reducible refine and_bar (by kernel_rfl) ?_
    refine hZ _ ?_
    refine RX2_g rfl fun Z hZ => ?_
    simp only [go_sem, seval, hb1, hx2, hc8, hr18, hc19, hr25, hc26]
    repeat with_reducible refine and_bar (by kernel_rfl) ?_
    refine hZ _ ?_
    refine RX2_g rfl fun Z hZ => ?_
    simp only [go_sem, seval, hb1, hx2, hc8, hr18, hc19, hr25, hc26]
    repeat with_reducible refine and_bar (by kernel_rfl) ?_
    refine hZ _ ?_
    refine RX2_s rfl rfl fun Z hZ => ?_
    simp only [go_sem, seval, hb1, hx2, hc8, hr18, hc19, hr25, hc26]
    repeat with_reducible refine and_bar (by kernel_rfl) ?_
    refine hZ _ ?_
    refine RX2_s rfl rfl fun Z hZ => ?_
    simp only [go_sem, seval, hb1, hx2, hc8, hr18, hc19, hr25, hc26]
    repeat with_reducible refine and_bar (by kernel_rfl) ?_
    refine hZ _ ?_
    refine RX2_guard_dec rfl (fun hc27 => ?_) (fun hc27 => ?_)
    · have hc27d := decide_eq_true hc27
      first | rw [if_pos hc27] at h | rw [if_pos hc27d] at h
      refine RX2_norm fun Z hZ => ?_
      simp only [hc27d, Bool.not_true, Bool.not_false]
      refine hZ _ ?_
      refine RX2_g rfl fun Z hZ => ?_
      simp only [go_sem, seval, hb1, hx2, hc8, hr18, hc19, hr25, hc26, hc27d]
      repeat with_reducible refine and_bar (by kernel_rfl) ?_
      refine hZ _ ?_
      refine RX2_g rfl fun Z hZ => ?_
      simp only [go_sem, seval, hb1, hx2, hc8, hr18, hc19, hr25, hc26, hc27d]
      repeat with_reducible refine and_bar (by kernel_rfl) ?_
      refine hZ _ ?_
      refine RX2_g rfl fun Z hZ => ?_
      simp only [go_sem, seval, hb1, hx2, hc8, hr18, hc19, hr25, hc26, hc27d]
      repeat with_reducible refine and_bar (by kernel_rfl) ?_
      refine hZ _ ?_
      refine RX2_g rfl fun Z hZ => ?_
      simp only [go_sem, seval, hb1, hx2, hc8, hr18, hc19, hr25, hc26, hc27d]
      repeat with_reducible refine and_bar (by kernel_rfl) ?_
      refine hZ _ ?_
      refine RX2_g rfl fun Z hZ => ?_
      simp only [go_sem, seval, hb1, hx2, hc8, hr18, hc19, hr25, hc26, hc27d]
      repeat with_reducible refine and_bar (by kernel_rfl) ?_
      refine hZ _ ?_
      refine RX2_g rfl fun Z hZ => ?_
      simp only [go_sem, seval, hb1, hx2, hc8, hr18, hc19, hr25, hc26, hc27d]
      repeat with_reducible refine and_bar (by kernel_rfl) ?_
      refine hZ _ ?_
      refine RX2_s rfl rfl fun Z hZ => ?_
      simp only [go_sem, seval, hb1, hx2, hc8, hr18, hc19, hr25, hc26, hc27d]
      repeat with_reducible refine and_bar (by kernel_rfl) ?_
      refine hZ _ ?_
      refine RX2_s rfl rfl fun Z hZ => ?_
      simp only [go_sem, seval, hb1, hx2, hc8, hr18, hc19, hr25, hc26, hc27d]
      repeat with_reducible refine and_bar (by kernel_rfl) ?_
      refine hZ _ ?_
      refine RX2_g rfl fun Z hZ => ?_
      simp only [go_sem, seval, hb1, hx2, hc8, hr18, hc19, hr25, hc26, hc27d]
      repeat with_reducible refine and_bar (by kernel_rfl) ?_
      refine hZ _ ?_
      refine RX2_g rfl fun Z hZ => ?_
      simp only [go_sem, seval, hb1, hx2, hc8, hr18, hc19, hr25, hc26, hc27d]
      repeat with_reducible refine and_bar (by kernel_rfl) ?_
      refine hZ _ ?_
      refine RX2_g rfl fun Z hZ => ?_
      simp only [go_sem, seval, hb1, hx2, hc8, hr18, hc19, hr25, hc26, hc27d]
      repeat with_reducible refine and_bar (by kernel_rfl) ?_
      refine hZ _ ?_
      refine RX2_g rfl fun Z hZ => ?_
      simp only [go_sem, seval, hb1, hx2, hc8, hr18, hc19, hr25, hc26, hc27d]
      repeat with_reducible refine and_bar (by kernel_rfl) ?_
      refine hZ _ ?_
      refine RX2_g rfl fun Z hZ => ?_
      simp only [go_sem, seval, hb1, hx2, hc8, hr18, hc19, hr25, hc26, hc27d]
      repeat with_reducible refine and_bar (by kernel_rfl) ?_
      refine hZ _ ?_
      refine RX2_g rfl fun Z hZ => ?_
      simp only [go_sem, seval, hb1, hx2, hc8, hr18, hc19, hr25, hc26, hc27d]
      repeat with_reducible refine and_bar (by kernel_rfl) ?_
      refine hZ _ ?_
      refine RX2_s rfl rfl fun Z hZ => ?_
      simp only [go_sem, seval, hb1, hx2, hc8, hr18, hc19, hr25, hc26, hc27d]
      repeat with_reducible refine and_bar (by kernel_rfl) ?_
      refine hZ _ ?_
      refine RX2_s rfl rfl fun Z hZ => ?_
      simp only [go_sem, seval, hb1, hx2, hc8, hr18, hc19, hr25, hc26, hc27d]
      repeat with_reducible refine and_bar (by kernel_rfl) ?_
      refine hZ _ ?_
      refine RX2_g rfl fun Z hZ => ?_
      simp only [go_sem, seval, hb1, hx2, hc8, hr18, hc19, hr25, hc26, hc27d]
      repeat with_reducible refine and_bar (by kernel_rfl) ?_
      refine hZ _ ?_
      refine RX2_g rfl fun Z hZ => ?_
      simp only [go_sem, seval, hb1, hx2, hc8, hr18, hc19, hr25, hc26, hc27d]
      repeat with_reducible refine and_bar (by kernel_rfl) ?_
      refine hZ _ ?_
      refine RX2_g rfl fun Z hZ => ?_
      simp only [go_sem, seval, hb1, hx2, hc8, hr18, hc19, hr25, hc26, hc27d]
      repeat with_reducible refine and_bar (by kernel_rfl) ?_
      refine hZ _ ?_
      refine RX2_g rfl fun Z hZ => ?_
      simp only [go_sem, seval, hb1, hx2, hc8, hr18, hc19, hr25, hc26, hc27d]
      repeat with_reducible refine and_bar (by kernel_rfl) ?_
      refine hZ _ ?_
      refine RX2_g rfl fun Z hZ => ?_
      simp only [go_sem, seval, hb1, hx2, hc8, hr18, hc19, hr25, hc26, hc27d]
      repeat with_reducible refine and_bar (by kernel_rfl) ?_
      refine hZ _ ?_
      refine RX2_g rfl fun Z hZ => ?_
      simp only [go_sem, seval, hb1, hx2, hc8, hr18, hc19, hr25, hc26, hc27d]
      repeat with_reducible refine and_bar (by kernel_rfl) ?_
      refine hZ _ ?_
      refine RX2_s rfl rfl fun Z hZ => ?_
      simp only [go_sem, seval, hb1, hx2, hc8, hr18, hc19, hr25, hc26, hc27d]
      repeat with_reducible refine and_bar (by kernel_rfl) ?_
      refine hZ _ ?_
      refine RX2_s rfl rfl fun Z hZ => ?_
      simp only [go_sem, seval, hb1, hx2, hc8, hr18, hc19, hr25, hc26, hc27d]
      repeat with_reducible refine and_bar (by kernel_rfl) ?_
      refine hZ _ ?_
      refine RX2_g rfl fun Z hZ => ?_
      simp only [go_sem, seval, hb1, hx2, hc8, hr18, hc19, hr25, hc26, hc27d]
      repeat with_reducible refine and_bar (by kernel_rfl) ?_
      refine hZ _ ?_
      refine RX2_g rfl fun Z hZ => ?_
      simp only [go_sem, seval, hb1, hx2, hc8, hr18, hc19, hr25, hc26, hc27d]
      repeat with_reducible refine and_bar (by kernel_rfl) ?_
      refine hZ _ ?_
      refine RX2_g rfl fun Z hZ => ?_
      simp only [go_sem, seval, hb1, hx2, hc8, hr18, hc19, hr25, hc26, hc27d]
      repeat with_reducible refine and_bar (by kernel_rfl) ?_
      refine hZ _ ?_
      refine RX2_g rfl fun Z hZ => ?_
      simp only [go_sem, seval, hb1, hx2, hc8, hr18, hc19, hr25, hc26, hc27d]
      repeat with_reducible refine and_bar (by kernel_rfl) ?_
      refine hZ _ ?_
      refine RX2_g rfl fun Z hZ => ?_
      simp only [go_sem, seval, hb1, hx2, hc8, hr18, hc19, hr25, hc26, hc27d]
      repeat with_reducible refine and_bar (by kernel_rfl) ?_
      refine hZ _ ?_
      refine RX2_g rfl fun Z hZ => ?_
      simp only [go_sem, seval, hb1, hx2, hc8, hr18, hc19, hr25, hc26, hc27d]
      repeat with_reducible refine and_bar (by kernel_rfl) ?_
      refine hZ _ ?_
      refine RX2_off rfl fun Z hZ => ?_
      simp only [go_sem, seval, hb1, hx2, hc8, hr18, hc19, hr25, hc26, hc27d]
      repeat with_reducible refine and_bar (by kernel_rfl) ?_
      refine hZ _ ?_
      refine RX2_g rfl fun Z hZ => ?_
      simp only [go_sem, seval, hb1, hx2, hc8, hr18, hc19, hr25, hc26, hc27d]
      repeat with_reducible refine and_bar (by kernel_rfl) ?_
      refine hZ _ ?_
      refine RX2_g rfl fun Z hZ => ?_
      simp only [go_sem, seval, hb1, hx2, hc8, hr18, hc19, hr25, hc26, hc27d]
      repeat with_reducible refine and_bar (by kernel_rfl) ?_
      refine hZ _ ?_
      refine RX2_g rfl fun Z hZ => ?_
      simp only [go_sem, seval, hb1, hx2, hc8, hr18, hc19, hr25, hc26, hc27d]
      repeat with_reducible refine and_bar (by kernel_rfl) ?_
      refine hZ _ ?_
      refine RX2_g rfl fun Z hZ => ?_
      simp only [go_sem, seval, hb1, hx2, hc8, hr18, hc19, hr25, hc26, hc27d]
      repeat with_reducible refine and_bar (by kernel_rfl) ?_
      refine hZ _ ?_
      refine RX2_off rfl fun Z hZ => ?_
      simp only [go_sem, seval, hb1, hx2, hc8, hr18, hc19, hr25, hc26, hc27d]
      repeat with_reducible refine and_bar (by kernel_rfl) ?_
      refine hZ _ ?_
      refine RX2_g rfl fun Z hZ => ?_
      simp only [go_sem, seval, hb1, hx2, hc8, hr18, hc19, hr25, hc26, hc27d]
      repeat with_reducible refine and_bar (by kernel_rfl) ?_
      refine hZ _ ?_
      refine RX2_g rfl fun Z hZ => ?_
      simp only [go_sem, seval, hb1, hx2, hc8, hr18, hc19, hr25, hc26, hc27d]
      repeat with_reducible refine and_bar (by kernel_rfl) ?_
      refine hZ _ ?_
      refine RX2_s rfl rfl fun Z hZ => ?_
      simp only [go_sem, seval, hb1, hx2, hc8, hr18, hc19, hr25, hc26, hc27d]
      repeat with_reducible refine and_bar (by kernel_rfl) ?_
      refine hZ _ ?_
      refine RX2_s rfl rfl fun Z hZ => ?_
      simp only [go_sem, seval, hb1, hx2, hc8, hr18, hc19, hr25, hc26, hc27d]
      repeat with_reducible refine and_bar (by kernel_rfl) ?_
      refine hZ _ ?_
      refine RX2_g rfl fun Z hZ => ?_
      simp only [go_sem, seval, hb1, hx2, hc8, hr18, hc19, hr25, hc26, hc27d]
      repeat with_reducible refine and_bar (by kernel_rfl) ?_
      refine hZ _ ?_
      refine RX2_g rfl fun Z hZ => ?_
      simp only [go_sem, seval, hb1, hx2, hc8, hr18, hc19, hr25, hc26, hc27d]
      repeat with_reducible refine and_bar (by kernel_rfl) ?_
      refine hZ _ ?_
      refine RX2_g rfl fun Z hZ => ?_
      simp only [go_sem, seval, hb1, hx2, hc8, hr18, hc19, hr25, hc26, hc27d]
      repeat with_reducible refine and_bar (by kernel_rfl) ?_
      refine hZ _ ?_
      refine RX2_g rfl fun Z hZ => ?_
      simp only [go_sem, seval, hb1, hx2, hc8, hr18, hc19, hr25, hc26, hc27d]
      repeat with_reducible refine and_bar (by kernel_rfl) ?_
      refine hZ _ ?_
      refine RX2_g rfl fun Z hZ => ?_
      simp only [go_sem, seval, hb1, hx2, hc8, hr18, hc19, hr25, hc26, hc27d]
      repeat with_reducible refine and_bar (by kernel_rfl) ?_
      refine hZ _ ?_
      refine RX2_g rfl fun Z hZ => ?_
      simp only [go_sem, seval, hb1, hx2, hc8, hr18, hc19, hr25, hc26, hc27d]
      repeat with_reducible refine and_bar (by kernel_rfl) ?_
      refine hZ _ ?_
      refine RX2_off rfl fun Z hZ => ?_
      simp only [go_sem, seval, hb1, hx2, hc8, hr18, hc19, hr25, hc26, hc27d]
      repeat with_reducible refine and_bar (by kernel_rfl) ?_
      refine hZ _ ?_
      refine RX2_g rfl fun Z hZ => ?_
      simp only [go_sem, seval, hb1, hx2, hc8, hr18, hc19, hr25, hc26, hc27d]
      repeat with_reducible refine and_bar (by kernel_rfl) ?_
      refine hZ _ ?_
      refine RX2_g rfl fun Z hZ => ?_
      simp only [go_sem, seval, hb1, hx2, hc8, hr18, hc19, hr25, hc26, hc27d]
      repeat with_reducible refine and_bar (by kernel_rfl) ?_
      refine hZ _ ?_
      refine RX2_g rfl fun Z hZ => ?_
      simp only [go_sem, seval, hb1, hx2, hc8, hr18, hc19, hr25, hc26, hc27d]
      repeat with_reducible refine and_bar (by kernel_rfl) ?_
      refine hZ _ ?_
      refine RX2_off rfl fun Z hZ => ?_
      simp only [go_sem, seval, hb1, hx2, hc8, hr18, hc19, hr25, hc26, hc27d]
      repeat with_reducible refine and_bar (by kernel_rfl) ?_
      refine hZ _ ?_
      refine RX2_g rfl fun Z hZ => ?_
      simp only [go_sem, seval, hb1, hx2, hc8, hr18, hc19, hr25, hc26, hc27d]
      repeat with_reducible refine and_bar (by kernel_rfl) ?_
      refine hZ _ ?_
      refine RX2_g rfl fun Z hZ => ?_
      simp only [go_sem, seval, hb1, hx2, hc8, hr18, hc19, hr25, hc26, hc27d]
      repeat with_reducible refine and_bar (by kernel_rfl) ?_
      refine hZ _ ?_
      refine RX2_s rfl rfl fun Z hZ => ?_
      simp only [go_sem, seval, hb1, hx2, hc8, hr18, hc19, hr25, hc26, hc27d]
      repeat with_reducible refine and_bar (by kernel_rfl) ?_
      refine hZ _ ?_
      refine RX2_end (by kernel_rfl) (hY _ (pp ?_))
      refine hJ24 _ true ?_ h
      refine weak_roots ?_ ?_ <;> repeat' first | exact xn | exact rn | refine xc ?_ ?_ | refine rc ?_ ?_ ?_ | rfl | simp only [go_sem, seval, Bool.or_self, List.length_set, Int.natCast_zero, Int.cast_ofNat_Int, hb1, hx2, hc8, hr18, hc19, hr25, hc26, hc27d]
    have hc27d := decide_eq_false hc27
    first | rw [if_neg hc27] at h | rw [if_neg (ne_true_of_eq_false hc27d)] at h
    refine RX2_norm fun Z hZ => ?_
    simp only [hc27d, Bool.not_true, Bool.not_false]
    refine hZ _ ?_
    refine RX2_g rfl fun Z hZ => ?_
    simp only [go_sem, seval, hb1, hx2, hc8, hr18, hc19, hr25, hc26, hc27d]
    repeat with_reducible refine and_bar (by kernel_rfl) ?_
    refine hZ _ ?_
    refine RX2_g rfl fun Z hZ => ?_
    simp only [go_sem, seval, hb1, hx2, hc8, hr18, hc19, hr25, hc26, hc27d]
    repeat with_reducible refine and_bar (by kernel_rfl) ?_
    refine hZ _ ?_
    refine RX2_g rfl fun Z hZ => ?_
    simp only [go_sem, seval, hb1, hx2, hc8, hr18, hc19, hr25, hc26, hc27d]
    repeat with_reducible refine and_bar (by kernel_rfl) ?_
    refine hZ _ ?_
    refine RX2_g rfl fun Z hZ => ?_
    simp only [go_sem, seval, hb1, hx2, hc8, hr18, hc19, hr25, hc26, hc27d]
    repeat with_reducible refine and_bar (by kernel_rfl) ?_
    refine hZ _ ?_
    refine RX2_g rfl fun Z hZ => ?_
    simp only [go_sem, seval, hb1, hx2, hc8, hr18, hc19, hr25, hc26, hc27d]
    repeat with_reducible refine and_bar (by kernel_rfl) ?_
    refine hZ _ ?_
    refine RX2_g rfl fun Z hZ => ?_
    simp only [go_sem, seval, hb1, hx2, hc8, hr18, hc19, hr25, hc26, hc27d]
    repeat with_reducible refine and_bar (by kernel_rfl) ?_
    refine hZ _ ?_
    refine RX2_s rfl rfl fun Z hZ => ?_
    simp only [go_sem, seval, hb1, hx2, hc8, hr18, hc19, hr25, hc26, hc27d]
    repeat with_reducible refine and_bar (by kernel_rfl) ?_
    refine hZ _ ?_
    refine RX2_s rfl rfl fun Z hZ => ?_
    simp only [go_sem, seval, hb1, hx2, hc8, hr18, hc19, hr25, hc26, hc27d]
    repeat with_reducible refine and_bar (by kernel_rfl) ?_
    refine hZ _ ?_
    refine RX2_guard_nbool rfl (fun hc28 => ?_) (fun hc28 => ?_)
    · rw [if_neg (ne_true_of_eq_false hc28)] at h
      refine RX2_norm fun Z hZ => ?_
      simp only [hc28, Bool.not_true, Bool.not_false]
      refine hZ _ ?_
      refine RX2_g rfl fun Z hZ => ?_
      simp only [go_sem, seval, hb1, hx2, hc8, hr18, hc19, hr25, hc26, hc27d, hc28]
      repeat with_reducible refine and_bar (by kernel_rfl) ?_
      refine hZ _ ?_
      refine RX2_g rfl fun Z hZ => ?_
      simp only [go_sem, seval, hb1, hx2, hc8, hr18, hc19, hr25, hc26, hc27d, hc28]
      repeat with_reducible refine and_bar (by kernel_rfl) ?_
      refine hZ _ ?_
      refine RX2_g rfl fun Z hZ => ?_
      simp only [go_sem, seval, hb1, hx2, hc8, hr18, hc19, hr25, hc26, hc27d, hc28]
      repeat with_reducible refine and_bar (by kernel_rfl) ?_
      refine hZ _ ?_
      refine RX2_g rfl fun Z hZ => ?_
      simp only [go_sem, seval, hb1, hx2, hc8, hr18, hc19, hr25, hc26, hc27d, hc28]
      repeat with_reducible refine and_bar (by kernel_rfl) ?_
      refine hZ _ ?_
      refine RX2_g rfl fun Z hZ => ?_
      simp only [go_sem, seval, hb1, hx2, hc8, hr18, hc19, hr25, hc26, hc27d, hc28]
      repeat with_reducible refine and_bar (by kernel_rfl) ?_
      refine hZ _ ?_
      refine RX2_g rfl fun Z hZ => ?_
      simp only [go_sem, seval, hb1, hx2, hc8, hr18, hc19, hr25, hc26, hc27d, hc28]
      repeat with_reducible refine and_bar (by kernel_rfl) ?_
      refine hZ _ ?_
      refine RX2_s rfl rfl fun Z hZ => ?_
      simp only [go_sem, seval, hb1, hx2, hc8, hr18, hc19, hr25, hc26, hc27d, hc28]
      repeat with_reducible refine and_bar (by kernel_rfl) ?_
      refine hZ _ ?_
      refine RX2_s rfl rfl fun Z hZ => ?_
      simp only [go_sem, seval, hb1, hx2, hc8, hr18, hc19, hr25, hc26, hc27d, hc28]
      repeat with_reducible refine and_bar (by kernel_rfl) ?_
      refine hZ _ ?_
      refine RX2_g rfl fun Z hZ => ?_
      simp only [go_sem, seval, hb1, hx2, hc8, hr18, hc19, hr25, hc26, hc27d, hc28]
      repeat with_reducible refine and_bar (by kernel_rfl) ?_
      refine hZ _ ?_
      refine RX2_g rfl fun Z hZ => ?_
      simp only [go_sem, seval, hb1, hx2, hc8, hr18, hc19, hr25, hc26, hc27d, hc28]
      repeat with_reducible refine and_bar (by kernel_rfl) ?_
      refine hZ _ ?_
      refine RX2_g rfl fun Z hZ => ?_
      simp only [go_sem, seval, hb1, hx2, hc8, hr18, hc19, hr25, hc26, hc27d, hc28]
      repeat with_reducible refine and_bar (by kernel_rfl) ?_
      refine hZ _ ?_
      refine RX2_g rfl fun Z hZ => ?_
      simp only [go_sem, seval, hb1, hx2, hc8, hr18, hc19, hr25, hc26, hc27d, hc28]
      repeat with_reducible refine and_bar (by kernel_rfl) ?_
      refine hZ _ ?_
      refine RX2_g rfl fun Z hZ => ?_
      simp only [go_sem, seval, hb1, hx2, hc8, hr18, hc19, hr25, hc26, hc27d, hc28]
      repeat with_reducible refine and_bar (by kernel_rfl) ?_
      refine hZ _ ?_
      refine RX2_g rfl fun Z hZ => ?_
      simp only [go_sem, seval, hb1, hx2, hc8, hr18, hc19, hr25, hc26, hc27d, hc28]
      repeat with_reducible refine and_bar (by kernel_rfl) ?_
      refine hZ _ ?_
      refine RX2_s rfl rfl fun Z hZ => ?_
      simp only [go_sem, seval, hb1, hx2, hc8, hr18, hc19, hr25, hc26, hc27d, hc28]
      repeat with_reducible refine and_bar (by kernel_rfl) ?_
      refine hZ _ ?_
      refine RX2_s rfl rfl fun Z hZ => ?_
      simp only [go_sem, seval, hb1, hx2, hc8, hr18, hc19, hr25, hc26, hc27d, hc28]
      repeat with_reducible refine and_bar (by kernel_rfl) ?_
      refine hZ _ ?_
      refine RX2_g rfl fun Z hZ => ?_
      simp only [go_sem, seval, hb1, hx2, hc8, hr18, hc19, hr25, hc26, hc27d, hc28]
      repeat with_reducible refine and_bar (by kernel_rfl) ?_
      refine hZ _ ?_
      refine RX2_g rfl fun Z hZ => ?_
      simp only [go_sem, seval, hb1, hx2, hc8, hr18, hc19, hr25, hc26, hc27d, hc28]
      repeat with_reducible refine and_bar (by kernel_rfl) ?_
      refine hZ _ ?_
      refine RX2_g rfl fun Z hZ => ?_
      simp only [go_sem, seval, hb1, hx2, hc8, hr18, hc19, hr25, hc26, hc27d, hc28]
      repeat with_reducible refine and_bar (by kernel_rfl) ?_
      refine hZ _ ?_
      refine RX2_g rfl fun Z hZ => ?_
      simp only [go_sem, seval, hb1, hx2, hc8, hr18, hc19, hr25, hc26, hc27d, hc28]
      repeat with_reducible refine and_bar (by kernel_rfl) ?_
      refine hZ _ ?_
      refine RX2_g rfl fun Z hZ => ?_
      simp only [go_sem, seval, hb1, hx2, hc8, hr18, hc19, hr25, hc26, hc27d, hc28]
      repeat with_reducible refine and_bar (by kernel_rfl) ?_
      refine hZ _ ?_
      refine RX2_g rfl fun Z hZ => ?_
      simp only [go_sem, seval, hb1, hx2, hc8, hr18, hc19, hr25, hc26, hc27d, hc28]
      repeat with_reducible refine and_bar (by kernel_rfl) ?_
      refine hZ _ ?_
      refine RX2_off rfl fun Z hZ => ?_
      simp only [go_sem, seval, hb1, hx2, hc8, hr18, hc19, hr25, hc26, hc27d, hc28]
      repeat with_reducible refine and_bar (by kernel_rfl) ?_
      refine hZ _ ?_
      refine RX2_g rfl fun Z hZ => ?_
      simp only [go_sem, seval, hb1, hx2, hc8, hr18, hc19, hr25, hc26, hc27d, hc28]
      repeat with_reducible refine and_bar (by kernel_rfl) ?_
      refine hZ _ ?_
      refine RX2_g rfl fun Z hZ => ?_
      simp only [go_sem, seval, hb1, hx2, hc8, hr18, hc19, hr25, hc26, hc27d, hc28]
      repeat with_reducible refine and_bar (by kernel_rfl) ?_
      refine hZ _ ?_
      refine RX2_g rfl fun Z hZ => ?_
      simp only [go_sem, seval, hb1, hx2, hc8, hr18, hc19, hr25, hc26, hc27d, hc28]
      repeat with_reducible refine and_bar (by kernel_rfl) ?_
      refine hZ _ ?_
      refine RX2_g rfl fun Z hZ => ?_
      simp only [go_sem, seval, hb1, hx2, hc8, hr18, hc19, hr25, hc26, hc27d, hc28]
      repeat with_reducible refine and_bar (by kernel_rfl) ?_
      refine hZ _ ?_
      refine RX2_off rfl fun Z hZ => ?_
      simp only [go_sem, seval, hb1, hx2, hc8, hr18, hc19, hr25, hc26, hc27d, hc28]
      repeat with_reducible refine and_bar (by kernel_rfl) ?_
      refine hZ _ ?_
      refine RX2_g rfl fun Z hZ => ?_
      simp only [go_sem, seval, hb1, hx2, hc8, hr18, hc19, hr25, hc26, hc27d, hc28]
      repeat with_reducible refine and_bar (by kernel_rfl) ?_
      refine hZ _ ?_
      refine RX2_g rfl fun Z hZ => ?_
      simp only [go_sem, seval, hb1, hx2, hc8, hr18, hc19, hr25, hc26, hc27d, hc28]
      repeat with_reducible refine and_bar (by kernel_rfl) ?_
      refine hZ _ ?_
      refine RX2_s rfl rfl fun Z hZ => ?_
      simp only [go_sem, seval, hb1, hx2, hc8, hr18, hc19, hr25, hc26, hc27d, hc28]
      repeat with_reducible refine and_bar (by kernel_rfl) ?_
      refine hZ _ ?_
      refine RX2_s rfl rfl fun Z hZ => ?_
      simp only [go_sem, seval, hb1, hx2, hc8, hr18, hc19, hr25, hc26, hc27d, hc28]
      repeat with_reducible refine and_bar (by kernel_rfl) ?_
      refine hZ _ ?_
      refine RX2_g rfl fun Z hZ => ?_
      simp only [go_sem, seval, hb1, hx2, hc8, hr18, hc19, hr25, hc26, hc27d, hc28]
      repeat with_reducible refine and_bar (by kernel_rfl) ?_
      refine hZ _ ?_
      refine RX2_g rfl fun Z hZ => ?_
      simp only [go_sem, seval, hb1, hx2, hc8, hr18, hc19, hr25, hc26, hc27d, hc28]
      repeat with_reducible refine and_bar (by kernel_rfl) ?_
      refine hZ _ ?_
      refine RX2_g rfl fun Z hZ => ?_
      simp only [go_sem, seval, hb1, hx2, hc8, hr18, hc19, hr25, hc26, hc27d, hc28]
      repeat with_reducible refine and_bar (by kernel_rfl) ?_
      refine hZ _ ?_
      refine RX2_g rfl fun Z hZ => ?_
      simp only [go_sem, seval, hb1, hx2, hc8, hr18, hc19, hr25, hc26, hc27d, hc28]
      repeat with_reducible refine and_bar (by kernel_rfl) ?_
      refine hZ _ ?_
      refine RX2_g rfl fun Z hZ => ?_
      simp only [go_sem, seval, hb1, hx2, hc8, hr18, hc19, hr25, hc26, hc27d, hc28]
      repeat with_reducible refine and_bar (by kernel_rfl) ?_
      refine hZ _ ?_
      refine RX2_g rfl fun Z hZ => ?_
      simp only [go_sem, seval, hb1, hx2, hc8, hr18, hc19, hr25, hc26, hc27d, hc28]
      repeat with_reducible refine and_bar (by kernel_rfl) ?_
      refine hZ _ ?_
      refine RX2_off rfl fun Z hZ => ?_
      simp only [go_sem, seval, hb1, hx2, hc8, hr18, hc19, hr25, hc26, hc27d, hc28]
      repeat with_reducible refine and_bar (by kernel_rfl) ?_
      refine hZ _ ?_
      refine RX2_g rfl fun Z hZ => ?_
      simp only [go_sem, seval, hb1, hx2, hc8, hr18, hc19, hr25, hc26, hc27d, hc28]
      repeat with_reducible refine and_bar (by kernel_rfl) ?_
      refine hZ _ ?_
      refine RX2_g rfl fun Z hZ => ?_
      simp only [go_sem, seval, hb1, hx2, hc8, hr18, hc19, hr25, hc26, hc27d, hc28]
      repeat with_reducible refine and_bar (by kernel_rfl) ?_
      refine hZ _ ?_
      refine RX2_g rfl fun Z hZ => ?_
      simp only [go_sem, seval, hb1, hx2, hc8, hr18, hc19, hr25, hc26, hc27d, hc28]
      repeat with_reducible refine and_bar (by kernel_rfl) ?_
      refine hZ _ ?_
      refine RX2_off rfl fun Z hZ => ?_
      simp only [go_sem, seval, hb1, hx2, hc8, hr18, hc19, hr25, hc26, hc27d, hc28]
      repeat with_reducible refine and_bar (by kernel_rfl) ?_
      refine hZ _ ?_
      refine RX2_g rfl fun Z hZ => ?_
      simp only [go_sem, seval, hb1, hx2, hc8, hr18, hc19, hr25, hc26, hc27d, hc28]
      repeat with_reducible refine and_bar (by kernel_rfl) ?_
      refine hZ _ ?_
      refine RX2_g rfl fun Z hZ => ?_
      simp only [go_sem, seval, hb1, hx2, hc8, hr18, hc19, hr25, hc26, hc27d, hc28]
      repeat with_reducible refine and_bar (by kernel_rfl) ?_
      refine hZ _ ?_
      refine RX2_s rfl rfl fun Z hZ => ?_
      simp only [go_sem, seval, hb1, hx2, hc8, hr18, hc19, hr25, hc26, hc27d, hc28]
      repeat with_reducible refine and_bar (by kernel_rfl) ?_
      refine hZ _ ?_
      refine RX2_end (by kernel_rfl) (hY _ (pp ?_))
      refine hJ24 _ true ?_ h
      refine weak_roots ?_ ?_ <;> repeat' first | exact xn | exact rn | refine xc ?_ ?_ | refine rc ?_ ?_ ?_ | rfl | simp only [go_sem, seval, Bool.or_self, List.length_set, Int.natCast_zero, Int.cast_ofNat_Int, hb1, hx2, hc8, hr18, hc19, hr25, hc26, hc27d, hc28]
    rw [if_pos hc28] at h
    refine RX2_norm fun Z hZ => ?_
    simp only [hc28, Bool.not_true, Bool.not_false]
    refine hZ _ ?_
    refine RX2_g rfl fun Z hZ => ?_
    simp only [go_sem, seval, hb1, hx2, hc8, hr18, hc19, hr25, hc26, hc27d, hc28]
    repeat with_reducible refine and_bar (by kernel_rfl) ?_
    refine hZ _ ?_
    refine RX2_g rfl fun Z hZ => ?_
    simp only [go_sem, seval, hb1, hx2, hc8, hr18, hc19, hr25, hc26, hc27d, hc28]
    repeat with_reducible refine and_bar (by kernel_rfl) ?_
    refine hZ _ ?_
    refine RX2_g rfl fun Z hZ => ?_
    simp only [go_sem, seval, hb1, hx2, hc8, hr18, hc19, hr25, hc26, hc27d, hc28]
    repeat with_reducible refine and_bar (by kernel_rfl) ?_
    refine hZ _ ?_
    refine RX2_g rfl fun Z hZ => ?_
    simp only [go_sem, seval, hb1, hx2, hc8, hr18, hc19, hr25, hc26, hc27d, hc28]
    repeat with_reducible refine and_bar (by kernel_rfl) ?_
    refine hZ _ ?_
    refine RX2_g rfl fun Z hZ => ?_
    simp only [go_sem, seval, hb1, hx2, hc8, hr18, hc19, hr25, hc26, hc27d, hc28]
    repeat with_reducible refine and_bar (by kernel_rfl) ?_
    refine hZ _ ?_
    refine RX2_g rfl fun Z hZ => ?_
    simp only [go_sem, seval, hb1, hx2, hc8, hr18, hc19, hr25, hc26, hc27d, hc28]
    repeat with_reducible refine and_bar (by kernel_rfl) ?_
    refine hZ _ ?_
    refine RX2_s rfl rfl fun Z hZ => ?_
    simp only [go_sem, seval, hb1, hx2, hc8, hr18, hc19, hr25, hc26, hc27d, hc28]
    repeat with_reducible refine and_bar (by kernel_rfl) ?_
    refine hZ _ ?_
    refine RX2_s rfl rfl fun Z hZ => ?_
    simp only [go_sem, seval, hb1, hx2, hc8, hr18, hc19, hr25, hc26, hc27d, hc28]
    repeat with_reducible refine and_bar (by kernel_rfl) ?_
    refine hZ _ ?_
    refine RX2_guard_ndec rfl (fun hc29 => ?_) (fun hc29 => ?_)
    · have hc29d := decide_eq_false hc29
      first | rw [if_neg hc29] at h | rw [if_neg (ne_true_of_eq_false hc29d)] at h
      refine RX2_norm fun Z hZ => ?_
      simp only [hc29d, Bool.not_true, Bool.not_false]
      refine hZ _ ?_
      refine RX2_g rfl fun Z hZ => ?_
      simp only [go_sem, seval, hb1, hx2, hc8, hr18, hc19, hr25, hc26, hc27d, hc28, hc29d]
      repeat with_reducible refine and_bar (by kernel_rfl) ?_
      refine hZ _ ?_
      refine RX2_g rfl fun Z hZ => ?_
      simp only [go_sem, seval, hb1, hx2, hc8, hr18, hc19, hr25, hc26, hc27d, hc28, hc29d]
      repeat with_reducible refine and_bar (by kernel_rfl) ?_
      refine hZ _ ?_
      refine RX2_g rfl fun Z hZ => ?_
      simp only [go_sem, seval, hb1, hx2, hc8, hr18, hc19, hr25, hc26, hc27d, hc28, hc29d]
      repeat with_reducible refine and_bar (by kernel_rfl) ?_
      refine hZ _ ?_
      refine RX2_g rfl fun Z hZ => ?_
      simp only [go_sem, seval, hb1, hx2, hc8, hr18, hc19, hr25, hc26, hc27d, hc28, hc29d]
      repeat with_reducible refine and_bar (by kernel_rfl) ?_
      refine hZ _ ?_
      refine RX2_g rfl fun Z hZ => ?_
      simp only [go_sem, seval, hb1, hx2, hc8, hr18, hc19, hr25, hc26, hc27d, hc28, hc29d]
      repeat with_reducible refine and_bar (by kernel_rfl) ?_
      refine hZ _ ?_
      refine RX2_g rfl fun Z hZ => ?_
      simp only [go_sem, seval, hb1, hx2, hc8, hr18, hc19, hr25, hc26, hc27d, hc28, hc29d]
      repeat with_reducible refine and_bar (by kernel_rfl) ?_
      refine hZ _ ?_
      refine RX2_s rfl rfl fun Z hZ => ?_
      simp only [go_sem, seval, hb1, hx2, hc8, hr18, hc19, hr25, hc26, hc27d, hc28, hc29d]
      repeat with_reducible refine and_bar (by kernel_rfl) ?_
      refine hZ _ ?_
      refine RX2_s rfl rfl fun Z hZ => ?_
      simp only [go_sem, seval, hb1, hx2, hc8, hr18, hc19, hr25, hc26, hc27d, hc28, hc29d]
      repeat with_reducible refine and_bar (by kernel_rfl) ?_
      refine hZ _ ?_
      refine RX2_g rfl fun Z hZ => ?_
      simp only [go_sem, seval, hb1, hx2, hc8, hr18, hc19, hr25, hc26, hc27d, hc28, hc29d]
      repeat with_reducible refine and_bar (by kernel_rfl) ?_
      refine hZ _ ?_
      refine RX2_g rfl fun Z hZ => ?_
      simp only [go_sem, seval, hb1, hx2, hc8, hr18, hc19, hr25, hc26, hc27d, hc28, hc29d]
      repeat with_reducible refine and_bar (by kernel_rfl) ?_
      refine hZ _ ?_
      refine RX2_g rfl fun Z hZ => ?_
      simp only [go_sem, seval, hb1, hx2, hc8, hr18, hc19, hr25, hc26, hc27d, hc28, hc29d]
      repeat with_reducible refine and_bar (by kernel_rfl) ?_
      refine hZ _ ?_
      refine RX2_g rfl fun Z hZ => ?_
      simp only [go_sem, seval, hb1, hx2, hc8, hr18, hc19, hr25, hc26, hc27d, hc28, hc29d]
      repeat with_reducible refine and_bar (by kernel_rfl) ?_
      refine hZ _ ?_
      refine RX2_g rfl fun Z hZ => ?_
      simp only [go_sem, seval, hb1, hx2, hc8, hr18, hc19, hr25, hc26, hc27d, hc28, hc29d]
      repeat with_reducible refine and_bar (by kernel_rfl) ?_
      refine hZ _ ?_
      refine RX2_g rfl fun Z hZ => ?_
      simp only [go_sem, seval, hb1, hx2, hc8, hr18, hc19, hr25, hc26, hc27d, hc28, hc29d]
      repeat with_reducible refine and_bar (by kernel_rfl) ?_
      refine hZ _ ?_
      refine RX2_off rfl fun Z hZ => ?_
      simp only [go_sem, seval, hb1, hx2, hc8, hr18, hc19, hr25, hc26, hc27d, hc28, hc29d]
      repeat with_reducible refine and_bar (by kernel_rfl) ?_
      refine hZ _ ?_
      refine RX2_g rfl fun Z hZ => ?_
      simp only [go_sem, seval, hb1, hx2, hc8, hr18, hc19, hr25, hc26, hc27d, hc28, hc29d]
      repeat with_reducible refine and_bar (by kernel_rfl) ?_
      refine hZ _ ?_
      refine RX2_g rfl fun Z hZ => ?_
      simp only [go_sem, seval, hb1, hx2, hc8, hr18, hc19, hr25, hc26, hc27d, hc28, hc29d]
      repeat with_reducible refine and_bar (by kernel_rfl) ?_
      refine hZ _ ?_
      refine RX2_g rfl fun Z hZ => ?_
      simp only [go_sem, seval, hb1, hx2, hc8, hr18, hc19, hr25, hc26, hc27d, hc28, hc29d]
      repeat with_reducible refine and_bar (by kernel_rfl) ?_
      refine hZ _ ?_
      refine RX2_g rfl fun Z hZ => ?_
      simp only [go_sem, seval, hb1, hx2, hc8, hr18, hc19, hr25, hc26, hc27d, hc28, hc29d]
      repeat with_reducible refine and_bar (by kernel_rfl) ?_
      refine hZ _ ?_
      refine RX2_off rfl fun Z hZ => ?_
      simp only [go_sem, seval, hb1, hx2, hc8, hr18, hc19, hr25, hc26, hc27d, hc28, hc29d]
      repeat with_reducible refine and_bar (by kernel_rfl) ?_
      refine hZ _ ?_
      refine RX2_g rfl fun Z hZ => ?_
      simp only [go_sem, seval, hb1, hx2, hc8, hr18, hc19, hr25, hc26, hc27d, hc28, hc29d]
      repeat with_reducible refine and_bar (by kernel_rfl) ?_
      refine hZ _ ?_
      refine RX2_g rfl fun Z hZ => ?_
      simp only [go_sem, seval, hb1, hx2, hc8, hr18, hc19, hr25, hc26, hc27d, hc28, hc29d]
      repeat with_reducible refine and_bar (by kernel_rfl) ?_
      refine hZ _ ?_
      refine RX2_s rfl rfl fun Z hZ => ?_
      simp only [go_sem, seval, hb1, hx2, hc8, hr18, hc19, hr25, hc26, hc27d, hc28, hc29d]
      repeat with_reducible refine and_bar (by kernel_rfl) ?_
      refine hZ _ ?_
      refine RX2_s rfl rfl fun Z hZ => ?_
      simp only [go_sem, seval, hb1, hx2, hc8, hr18, hc19, hr25, hc26, hc27d, hc28, hc29d]
      repeat with_reducible refine and_bar (by kernel_rfl) ?_
      refine hZ _ ?_
      refine RX2_g rfl fun Z hZ => ?_
      simp only [go_sem, seval, hb1, hx2, hc8, hr18, hc19, hr25, hc26, hc27d, hc28, hc29d]
      repeat with_reducible refine and_bar (by kernel_rfl) ?_
      refine hZ _ ?_
      refine RX2_g rfl fun Z hZ => ?_
      simp only [go_sem, seval, hb1, hx2, hc8, hr18, hc19, hr25, hc26, hc27d, hc28, hc29d]
      repeat with_reducible refine and_bar (by kernel_rfl) ?_
      refine hZ _ ?_
      refine RX2_g rfl fun Z hZ => ?_
      simp only [go_sem, seval, hb1, hx2, hc8, hr18, hc19, hr25, hc26, hc27d, hc28, hc29d]
      repeat with_reducible refine and_bar (by kernel_rfl) ?_
      refine hZ _ ?_
      refine RX2_g rfl fun Z hZ => ?_
      simp only [go_sem, seval, hb1, hx2, hc8, hr18, hc19, hr25, hc26, hc27d, hc28, hc29d]
      repeat with_reducible refine and_bar (by kernel_rfl) ?_
      refine hZ _ ?_
      refine RX2_g rfl fun Z hZ => ?_
      simp only [go_sem, seval, hb1, hx2, hc8, hr18, hc19, hr25, hc26, hc27d, hc28, hc29d]
      repeat with_reducible refine and_bar (by kernel_rfl) ?_
      refine hZ _ ?_
      refine RX2_g rfl fun Z hZ => ?_
      simp only [go_sem, seval, hb1, hx2, hc8, hr18, hc19, hr25, hc26, hc27d, hc28, hc29d]
      repeat with_reducible refine and_bar (by kernel_rfl) ?_
      refine hZ _ ?_
      refine RX2_off rfl fun Z hZ => ?_
      simp only [go_sem, seval, hb1, hx2, hc8, hr18, hc19, hr25, hc26, hc27d, hc28, hc29d]
      repeat with_reducible refine and_bar (by kernel_rfl) ?_
      refine hZ _ ?_
      refine RX2_g rfl fun Z hZ => ?_
      simp only [go_sem, seval, hb1, hx2, hc8, hr18, hc19, hr25, hc26, hc27d, hc28, hc29d]
      repeat with_reducible refine and_bar (by kernel_rfl) ?_
      refine hZ _ ?_
      refine RX2_g rfl fun Z hZ => ?_
      simp only [go_sem, seval, hb1, hx2, hc8, hr18, hc19, hr25, hc26, hc27d, hc28, hc29d]
      repeat with_reducible refine and_bar (by kernel_rfl) ?_
      refine hZ _ ?_
      refine RX2_g rfl fun Z hZ => ?_
      simp only [go_sem, seval, hb1, hx2, hc8, hr18, hc19, hr25, hc26, hc27d, hc28, hc29d]
      repeat with_reducible refine and_bar (by kernel_rfl) ?_
      refine hZ _ ?_
      refine RX2_off rfl fun Z hZ => ?_
      simp only [go_sem, seval, hb1, hx2, hc8, hr18, hc19, hr25, hc26, hc27d, hc28, hc29d]
      repeat with_reducible refine and_bar (by kernel_rfl) ?_
      refine hZ _ ?_
      refine RX2_g rfl fun Z hZ => ?_
      simp only [go_sem, seval, hb1, hx2, hc8, hr18, hc19, hr25, hc26, hc27d, hc28, hc29d]
      repeat with_reducible refine and_bar (by kernel_rfl) ?_
      refine hZ _ ?_
      refine RX2_g rfl fun Z hZ => ?_
      simp only [go_sem, seval, hb1, hx2, hc8, hr18, hc19, hr25, hc26, hc27d, hc28, hc29d]
      repeat with_reducible refine and_bar (by kernel_rfl) ?_
      refine hZ _ ?_
      refine RX2_s rfl rfl fun Z hZ => ?_
      simp only [go_sem, seval, hb1, hx2, hc8, hr18, hc19, hr25, hc26, hc27d, hc28, hc29d]
      repeat with_reducible refine and_bar (by kernel_rfl) ?_
      refine hZ _ ?_
      refine RX2_end (by kernel_rfl) (hY _ (pp ?_))
      refine hJ24 _ true ?_ h
      refine weak_roots ?_ ?_ <;> repeat' first | exact xn | exact rn | refine xc ?_ ?_ | refine rc ?_ ?_ ?_ | rfl | simp only [go_sem, seval, Bool.or_self, List.length_set, Int.natCast_zero, Int.cast_ofNat_Int, hb1, hx2, hc8, hr18, hc19, hr25, hc26, hc27d, hc28, hc29d]
    have hc29d := decide_eq_true hc29
    first | rw [if_pos hc29] at h | rw [if_pos hc29d] at h
    refine RX2_norm fun Z hZ => ?_
    simp only [hc29d, Bool.not_true, Bool.not_false]
    refine hZ _ ?_
    refine RX2_g rfl fun Z hZ => ?_
    simp only [go_sem, seval, hb1, hx2, hc8, hr18, hc19, hr25, hc26, hc27d, hc28, hc29d]
    repeat with_reducible refine and_bar (by kernel_rfl) ?_
    refine hZ _ ?_
    refine RX2_g rfl fun Z hZ => ?_
    simp only [go_sem, seval, hb1, hx2, hc8, hr18, hc19, hr25, hc26, hc27d, hc28, hc29d]
    repeat with_reducible refine and_bar (by kernel_rfl) ?_
    refine hZ _ ?_
    refine RX2_g rfl fun Z hZ => ?_
    simp only [go_sem, seval, hb1, hx2, hc8, hr18, hc19, hr25, hc26, hc27d, hc28, hc29d]
    repeat with_reducible refine and_bar (by kernel_rfl) ?_
    refine hZ _ ?_
    refine RX2_g rfl fun Z hZ => ?_
    simp only [go_sem, seval, hb1, hx2, hc8, hr18, hc19, hr25, hc26, hc27d, hc28, hc29d]
    repeat with_reducible refine and_bar (by kernel_rfl) ?_
    refine hZ _ ?_
    refine RX2_g rfl fun Z hZ => ?_
    simp only [go_sem, seval, hb1, hx2, hc8, hr18, hc19, hr25, hc26, hc27d, hc28, hc29d]
    repeat with_reducible refine and_bar (by kernel_rfl) ?_
    refine hZ _ ?_
    refine RX2_g rfl fun Z hZ => ?_
    simp only [go_sem, seval, hb1, hx2, hc8, hr18, hc19, hr25, hc26, hc27d, hc28, hc29d]
    repeat with_reducible refine and_bar (by kernel_rfl) ?_
    refine hZ _ ?_
    refine RX2_s rfl rfl fun Z hZ => ?_
    simp only [go_sem, seval, hb1, hx2, hc8, hr18, hc19, hr25, hc26, hc27d, hc28, hc29d]
    repeat with_reducible refine and_bar (by kernel_rfl) ?_
    refine hZ _ ?_
    refine RX2_s rfl rfl fun Z hZ => ?_
    simp only [go_sem, seval, hb1, hx2, hc8, hr18, hc19, hr25, hc26, hc27d, hc28, hc29d]
    repeat with_reducible refine and_bar (by kernel_rfl) ?_
    refine hZ _ ?_
    refine RX2_guard_ndec rfl (fun hc30 => ?_) (fun hc30 => ?_)
    · have hc30d := decide_eq_false hc30
      first | rw [if_neg hc30] at h | rw [if_neg (ne_true_of_eq_false hc30d)] at h
      refine RX2_norm fun Z hZ => ?_
      simp only [hc30d, Bool.not_true, Bool.not_false]
      refine hZ _ ?_
      refine RX2_g rfl fun Z hZ => ?_
      simp only [go_sem, seval, hb1, hx2, hc8, hr18, hc19, hr25, hc26, hc27d, hc28, hc29d, hc30d]
      repeat with_reducible refine and_bar (by kernel_rfl) ?_
      refine hZ _ ?_
      refine RX2_g rfl fun Z hZ => ?_
      simp only [go_sem, seval, hb1, hx2, hc8, hr18, hc19, hr25, hc26, hc27d, hc28, hc29d, hc30d]
      repeat with_reducible refine and_bar (by kernel_rfl) ?_
      refine hZ _ ?_
      refine RX2_g rfl fun Z hZ => ?_
      simp only [go_sem, seval, hb1, hx2, hc8, hr18, hc19, hr25, hc26, hc27d, hc28, hc29d, hc30d]
      repeat with_reducible refine and_bar (by kernel_rfl) ?_
      refine hZ _ ?_
      refine RX2_g rfl fun Z hZ => ?_
      simp only [go_sem, seval, hb1, hx2, hc8, hr18, hc19, hr25, hc26, hc27d, hc28, hc29d, hc30d]
      repeat with_reducible refine and_bar (by kernel_rfl) ?_
      refine hZ _ ?_
      refine RX2_g rfl fun Z hZ => ?_
      simp only [go_sem, seval, hb1, hx2, hc8, hr18, hc19, hr25, hc26, hc27d, hc28, hc29d, hc30d]
      repeat with_reducible refine and_bar (by kernel_rfl) ?_
      refine hZ _ ?_
      refine RX2_g rfl fun Z hZ => ?_
      simp only [go_sem, seval, hb1, hx2, hc8, hr18, hc19, hr25, hc26, hc27d, hc28, hc29d, hc30d]
      repeat with_reducible refine and_bar (by kernel_rfl) ?_
      refine hZ _ ?_
      refine RX2_off rfl fun Z hZ => ?_
      simp only [go_sem, seval, hb1, hx2, hc8, hr18, hc19, hr25, hc26, hc27d, hc28, hc29d, hc30d]
      repeat with_reducible refine and_bar (by kernel_rfl) ?_
      refine hZ _ ?_
      refine RX2_g rfl fun Z hZ => ?_
      simp only [go_sem, seval, hb1, hx2, hc8, hr18, hc19, hr25, hc26, hc27d, hc28, hc29d, hc30d]
      repeat with_reducible refine and_bar (by kernel_rfl) ?_
      refine hZ _ ?_
      refine RX2_g rfl fun Z hZ => ?_
      simp only [go_sem, seval, hb1, hx2, hc8, hr18, hc19, hr25, hc26, hc27d, hc28, hc29d, hc30d]
      repeat with_reducible refine and_bar (by kernel_rfl) ?_
      refine hZ _ ?_
      refine RX2_g rfl fun Z hZ => ?_
      simp only [go_sem, seval, hb1, hx2, hc8, hr18, hc19, hr25, hc26, hc27d, hc28, hc29d, hc30d]
      repeat with_reducible refine and_bar (by kernel_rfl) ?_
      refine hZ _ ?_
      refine RX2_g rfl fun Z hZ => ?_
      simp only [go_sem, seval, hb1, hx2, hc8, hr18, hc19, hr25, hc26, hc27d, hc28, hc29d, hc30d]
      repeat with_reducible refine and_bar (by kernel_rfl) ?_
      refine hZ _ ?_
      refine RX2_off rfl fun Z hZ => ?_
      simp only [go_sem, seval, hb1, hx2, hc8, hr18, hc19, hr25, hc26, hc27d, hc28, hc29d, hc30d]
      repeat with_reducible refine and_bar (by kernel_rfl) ?_
      refine hZ _ ?_
      refine RX2_g rfl fun Z hZ => ?_
      simp only [go_sem, seval, hb1, hx2, hc8, hr18, hc19, hr25, hc26, hc27d, hc28, hc29d, hc30d]
      repeat with_reducible refine and_bar (by kernel_rfl) ?_
      refine hZ _ ?_
      refine RX2_g rfl fun Z hZ => ?_
      simp only [go_sem, seval, hb1, hx2, hc8, hr18, hc19, hr25, hc26, hc27d, hc28, hc29d, hc30d]
      repeat with_reducible refine and_bar (by kernel_rfl) ?_
      refine hZ _ ?_
      refine RX2_s rfl rfl fun Z hZ => ?_
      simp only [go_sem, seval, hb1, hx2, hc8, hr18, hc19, hr25, hc26, hc27d, hc28, hc29d, hc30d]
      repeat with_reducible refine and_bar (by kernel_rfl) ?_
      refine hZ _ ?_
      refine RX2_s rfl rfl fun Z hZ => ?_
      simp only [go_sem, seval, hb1, hx2, hc8, hr18, hc19, hr25, hc26, hc27d, hc28, hc29d, hc30d]
      repeat with_reducible refine and_bar (by kernel_rfl) ?_
      refine hZ _ ?_
      refine RX2_g rfl fun Z hZ => ?_
      simp only [go_sem, seval, hb1, hx2, hc8, hr18, hc19, hr25, hc26, hc27d, hc28, hc29d, hc30d]
      repeat with_reducible refine and_bar (by kernel_rfl) ?_
      refine hZ _ ?_
      refine RX2_g rfl fun Z hZ => ?_
      simp only [go_sem, seval, hb1, hx2, hc8, hr18, hc19, hr25, hc26, hc27d, hc28, hc29d, hc30d]
      repeat with_reducible refine and_bar (by kernel_rfl) ?_
      refine hZ _ ?_
      refine RX2_g rfl fun Z hZ => ?_
      simp only [go_sem, seval, hb1, hx2, hc8, hr18, hc19, hr25, hc26, hc27d, hc28, hc29d, hc30d]
      repeat with_reducible refine and_bar (by kernel_rfl) ?_
      refine hZ _ ?_
      refine RX2_g rfl fun Z hZ => ?_
      simp only [go_sem, seval, hb1, hx2, hc8, hr18, hc19, hr25, hc26, hc27d, hc28, hc29d, hc30d]
      repeat with_reducible refine and_bar (by kernel_rfl) ?_
      refine hZ _ ?_
      refine RX2_g rfl fun Z hZ => ?_
      simp only [go_sem, seval, hb1, hx2, hc8, hr18, hc19, hr25, hc26, hc27d, hc28, hc29d, hc30d]
      repeat with_reducible refine and_bar (by kernel_rfl) ?_
      refine hZ _ ?_
      refine RX2_g rfl fun Z hZ => ?_
      simp only [go_sem, seval, hb1, hx2, hc8, hr18, hc19, hr25, hc26, hc27d, hc28, hc29d, hc30d]
      repeat with_reducible refine and_bar (by kernel_rfl) ?_
      refine hZ _ ?_
      refine RX2_off rfl fun Z hZ => ?_
      simp only [go_sem, seval, hb1, hx2, hc8, hr18, hc19, hr25, hc26, hc27d, hc28, hc29d, hc30d]
      repeat with_reducible refine and_bar (by kernel_rfl) ?_
      refine hZ _ ?_
      refine RX2_g rfl fun Z hZ => ?_
      simp only [go_sem, seval, hb1, hx2, hc8, hr18, hc19, hr25, hc26, hc27d, hc28, hc29d, hc30d]
      repeat with_reducible refine and_bar (by kernel_rfl) ?_
      refine hZ _ ?_
      refine RX2_g rfl fun Z hZ => ?_
      simp only [go_sem, seval, hb1, hx2, hc8, hr18, hc19, hr25, hc26, hc27d, hc28, hc29d, hc30d]
      repeat with_reducible refine and_bar (by kernel_rfl) ?_
      refine hZ _ ?_
      refine RX2_g rfl fun Z hZ => ?_
      simp only [go_sem, seval, hb1, hx2, hc8, hr18, hc19, hr25, hc26, hc27d, hc28, hc29d, hc30d]
      repeat with_reducible refine and_bar (by kernel_rfl) ?_
      refine hZ _ ?_
      refine RX2_off rfl fun Z hZ => ?_
      simp only [go_sem, seval, hb1, hx2, hc8, hr18, hc19, hr25, hc26, hc27d, hc28, hc29d, hc30d]
      repeat with_reducible refine and_bar (by kernel_rfl) ?_
      refine hZ _ ?_
      refine RX2_g rfl fun Z hZ => ?_
      simp only [go_sem, seval, hb1, hx2, hc8, hr18, hc19, hr25, hc26, hc27d, hc28, hc29d, hc30d]
      repeat with_reducible refine and_bar (by kernel_rfl) ?_
      refine hZ _ ?_
      refine RX2_g rfl fun Z hZ => ?_
      simp only [go_sem, seval, hb1, hx2, hc8, hr18, hc19, hr25, hc26, hc27d, hc28, hc29d, hc30d]
      repeat with_reducible refine and_bar (by kernel_rfl) ?_
      refine hZ _ ?_
      refine RX2_s rfl rfl fun Z hZ => ?_
      simp only [go_sem, seval, hb1, hx2, hc8, hr18, hc19, hr25, hc26, hc27d, hc28, hc29d, hc30d]
      repeat with_reducible refine and_bar (by kernel_rfl) ?_
      refine hZ _ ?_
      refine RX2_end (by kernel_rfl) (hY _ (pp ?_))
      refine hJ24 _ true ?_ h
      refine weak_roots ?_ ?_ <;> repeat' first | exact xn | exact rn | refine xc ?_ ?_ | refine rc ?_ ?_ ?_ | rfl | simp only [go_sem, seval, Bool.or_self, List.length_set, Int.natCast_zero, Int.cast_ofNat_Int, hb1, hx2, hc8, hr18, hc19, hr25, hc26, hc27d, hc28, hc29d, hc30d]
    have hc30d := decide_eq_true hc30
    first | rw [if_pos hc30] at h | rw [if_pos hc30d] at h
    refine RX2_norm fun Z hZ => ?_
    simp only [hc30d, Bool.not_true, Bool.not_false]
    refine hZ _ ?_
    first | obtain ⟨ha31, h⟩ := apn_some h | (obtain ⟨ha31, h⟩ := apx_some h; rw [List.nil_append] at h)
    simp only [List.length_append, List.length_cons, List.length_nil, Nat.zero_add, Nat.add_zero, Nat.reduceAdd] at ha31
    obtain ⟨ha32, h⟩ := apx_some h
    simp only [List.length_append, List.length_cons, List.length_nil, Nat.zero_add, Nat.add_zero, Nat.reduceAdd] at ha32
    obtain ⟨r32, hr33, h⟩ := Option.bind_eq_some_iff.1 h
    refine RX2_g rfl fun Z hZ => ?_
    simp only [go_sem, seval, hb1, hx2, hc8, hr18, hc19, hr25, hc26, hc27d, hc28, hc29d, hc30d, ha31, ha32, hr33]
    repeat with_reducible refine and_bar (by kernel_rfl) ?_
    refine hZ _ ?_
    refine RX2_g rfl fun Z hZ => ?_
    simp only [go_sem, seval, hb1, hx2, hc8, hr18, hc19, hr25, hc26, hc27d, hc28, hc29d, hc30d, ha31, ha32, hr33]
    repeat with_reducible refine and_bar (by kernel_rfl) ?_
    refine hZ _ ?_
    refine RX2_g rfl fun Z hZ => ?_
    simp only [go_sem, seval, hb1, hx2, hc8, hr18, hc19, hr25, hc26, hc27d, hc28, hc29d, hc30d, ha31, ha32, hr33]
    repeat with_reducible refine and_bar (by kernel_rfl) ?_
    refine hZ _ ?_
    refine RX2_g rfl fun Z hZ => ?_
    simp only [go_sem, seval, hb1, hx2, hc8, hr18, hc19, hr25, hc26, hc27d, hc28, hc29d, hc30d, ha31, ha32, hr33]
    repeat with_reducible refine and_bar (by kernel_rfl) ?_
    refine hZ _ ?_
    refine RX2_g rfl fun Z hZ => ?_
    simp only [go_sem, seval, hb1, hx2, hc8, hr18, hc19, hr25, hc26, hc27d, hc28, hc29d, hc30d, ha31, ha32, hr33]
    repeat with_reducible refine and_bar (by kernel_rfl) ?_
    refine hZ _ ?_
    refine RX2_g rfl fun Z hZ => ?_
    simp only [go_sem, seval, hb1, hx2, hc8, hr18, hc19, hr25, hc26, hc27d, hc28, hc29d, hc30d, ha31, ha32, hr33]
    repeat with_reducible refine and_bar (by kernel_rfl) ?_
    refine hZ _ ?_
    refine RX2_ag rfl fun Z hZ => ?_
    simp only [go_sem, seval, hb1, hx2, hc8, hr18, hc19, hr25, hc26, hc27d, hc28, hc29d, hc30d, ha31, ha32, hr33]
    repeat with_reducible refine and_bar (by kernel_rfl) ?_
    refine hZ _ ?_
    refine RX2_g rfl fun Z hZ => ?_
    simp only [go_sem, seval, hb1, hx2, hc8, hr18, hc19, hr25, hc26, hc27d, hc28, hc29d, hc30d, ha31, ha32, hr33]
    repeat with_reducible refine and_bar (by kernel_rfl) ?_
    refine hZ _ ?_
    refine RX2_g rfl fun Z hZ => ?_
    simp only [go_sem, seval, hb1, hx2, hc8, hr18, hc19, hr25, hc26, hc27d, hc28, hc29d, hc30d, ha31, ha32, hr33]
    repeat with_reducible refine and_bar (by kernel_rfl) ?_
    refine hZ _ ?_
    refine RX2_g rfl fun Z hZ => ?_
    simp only [go_sem, seval, hb1, hx2, hc8, hr18, hc19, hr25, hc26, hc27d, hc28, hc29d, hc30d, ha31, ha32, hr33]
    repeat with_reducible refine and_bar (by kernel_rfl) ?_
    refine hZ _ ?_
    refine RX2_g rfl fun Z hZ => ?_
    simp only [go_sem, seval, hb1, hx2, hc8, hr18, hc19, hr25, hc26, hc27d, hc28, hc29d, hc30d, ha31, ha32, hr33]
    repeat with_reducible refine and_bar (by kernel_rfl) ?_
    refine hZ _ ?_
    refine RX2_ag rfl fun Z hZ => ?_
    simp only [go_sem, seval, hb1, hx2, hc8, hr18, hc19, hr25, hc26, hc27d, hc28, hc29d, hc30d, ha31, ha32, hr33]
    repeat with_reducible refine and_bar (by kernel_rfl) ?_
    refine hZ _ ?_
    refine RX2_g rfl fun Z hZ => ?_
    simp only [go_sem, seval, hb1, hx2, hc8, hr18, hc19, hr25, hc26, hc27d, hc28, hc29d, hc30d, ha31, ha32, hr33]
    repeat with_reducible refine and_bar (by kernel_rfl) ?_
    refine hZ _ ?_
    refine RX2_g rfl fun Z hZ => ?_
    simp only [go_sem, seval, hb1, hx2, hc8, hr18, hc19, hr25, hc26, hc27d, hc28, hc29d, hc30d, ha31, ha32, hr33]
    repeat with_reducible refine and_bar (by kernel_rfl) ?_
    refine hZ _ ?_
    refine RX2_s rfl rfl fun Z hZ => ?_
    simp only [go_sem, seval, hb1, hx2, hc8, hr18, hc19, hr25, hc26, hc27d, hc28, hc29d, hc30d, ha31, ha32, hr33]
    repeat with_reducible refine and_bar (by kernel_rfl) ?_
    refine hZ _ ?_
    refine RX2_s rfl rfl fun Z hZ => ?_
    simp only [go_sem, seval, hb1, hx2, hc8, hr18, hc19, hr25, hc26, hc27d, hc28, hc29d, hc30d, ha31, ha32, hr33]
    repeat with_reducible refine and_bar (by kernel_rfl) ?_
    refine hZ _ ?_
    refine RX2_guard_nbool rfl (fun hc34 => ?_) (fun hc34 => ?_)
    · rw [if_neg (ne_true_of_eq_false hc34)] at h
      refine RX2_norm fun Z hZ => ?_
      simp only [hc34, Bool.not_true, Bool.not_false]
      refine hZ _ ?_
      refine RX2_g rfl fun Z hZ => ?_
      simp only [go_sem, seval, hb1, hx2, hc8, hr18, hc19, hr25, hc26, hc27d, hc28, hc29d, hc30d, ha31, ha32, hr33, hc34]
      repeat with_reducible refine and_bar (by kernel_rfl) ?_
      refine hZ _ ?_
      refine RX2_g rfl fun Z hZ => ?_
      simp only [go_sem, seval, hb1, hx2, hc8, hr18, hc19, hr25, hc26, hc27d, hc28, hc29d, hc30d, ha31, ha32, hr33, hc34]
      repeat with_reducible refine and_bar (by kernel_rfl) ?_
      refine hZ _ ?_
      refine RX2_g rfl fun Z hZ => ?_
      simp only [go_sem, seval, hb1, hx2, hc8, hr18, hc19, hr25, hc26, hc27d, hc28, hc29d, hc30d, ha31, ha32, hr33, hc34]
      repeat with_reducible refine and_bar (by kernel_rfl) ?_
      refine hZ _ ?_
      refine RX2_g rfl fun Z hZ => ?_
      simp only [go_sem, seval, hb1, hx2, hc8, hr18, hc19, hr25, hc26, hc27d, hc28, hc29d, hc30d, ha31, ha32, hr33, hc34]
      repeat with_reducible refine and_bar (by kernel_rfl) ?_
      refine hZ _ ?_
      refine RX2_g rfl fun Z hZ => ?_
      simp only [go_sem, seval, hb1, hx2, hc8, hr18, hc19, hr25, hc26, hc27d, hc28, hc29d, hc30d, ha31, ha32, hr33, hc34]
      repeat with_reducible refine and_bar (by kernel_rfl) ?_
      refine hZ _ ?_
      refine RX2_g rfl fun Z hZ => ?_
      simp only [go_sem, seval, hb1, hx2, hc8, hr18, hc19, hr25, hc26, hc27d, hc28, hc29d, hc30d, ha31, ha32, hr33, hc34]
      repeat with_reducible refine and_bar (by kernel_rfl) ?_
      refine hZ _ ?_
      refine RX2_off rfl fun Z hZ => ?_
      simp only [go_sem, seval, hb1, hx2, hc8, hr18, hc19, hr25, hc26, hc27d, hc28, hc29d, hc30d, ha31, ha32, hr33, hc34]
      repeat with_reducible refine and_bar (by kernel_rfl) ?_
      refine hZ _ ?_
      refine RX2_g rfl fun Z hZ => ?_
      simp only [go_sem, seval, hb1, hx2, hc8, hr18, hc19, hr25, hc26, hc27d, hc28, hc29d, hc30d, ha31, ha32, hr33, hc34]
      repeat with_reducible refine and_bar (by kernel_rfl) ?_
      refine hZ _ ?_
      refine RX2_g rfl fun Z hZ => ?_
      simp only [go_sem, seval, hb1, hx2, hc8, hr18, hc19, hr25, hc26, hc27d, hc28, hc29d, hc30d, ha31, ha32, hr33, hc34]
      repeat with_reducible refine and_bar (by kernel_rfl) ?_
      refine hZ _ ?_
      refine RX2_g rfl fun Z hZ => ?_
      simp only [go_sem, seval, hb1, hx2, hc8, hr18, hc19, hr25, hc26, hc27d, hc28, hc29d, hc30d, ha31, ha32, hr33, hc34]
      repeat with_reducible refine and_bar (by kernel_rfl) ?_
      refine hZ _ ?_
      refine RX2_off rfl fun Z hZ => ?_
      simp only [go_sem, seval, hb1, hx2, hc8, hr18, hc19, hr25, hc26, hc27d, hc28, hc29d, hc30d, ha31, ha32, hr33, hc34]
      repeat with_reducible refine and_bar (by kernel_rfl) ?_
      refine hZ _ ?_
      refine RX2_g rfl fun Z hZ => ?_
      simp only [go_sem, seval, hb1, hx2, hc8, hr18, hc19, hr25, hc26, hc27d, hc28, hc29d, hc30d, ha31, ha32, hr33, hc34]
      repeat with_reducible refine and_bar (by kernel_rfl) ?_
      refine hZ _ ?_
      refine RX2_g rfl fun Z hZ => ?_
      simp only [go_sem, seval, hb1, hx2, hc8, hr18, hc19, hr25, hc26, hc27d, hc28, hc29d, hc30d, ha31, ha32, hr33, hc34]
      repeat with_reducible refine and_bar (by kernel_rfl) ?_
      refine hZ _ ?_
      refine RX2_s rfl rfl fun Z hZ => ?_
      simp only [go_sem, seval, hb1, hx2, hc8, hr18, hc19, hr25, hc26, hc27d, hc28, hc29d, hc30d, ha31, ha32, hr33, hc34]
      repeat with_reducible refine and_bar (by kernel_rfl) ?_
      refine hZ _ ?_
      refine RX2_end (by kernel_rfl) (hY _ (pp ?_))
      refine hJ24 _ true ?_ h
      refine weak_roots ?_ ?_ <;> repeat' first | exact xn | exact rn | refine xc ?_ ?_ | refine rc ?_ ?_ ?_ | rfl | simp only [go_sem, seval, Bool.or_self, List.length_set, Int.natCast_zero, Int.cast_ofNat_Int, hb1, hx2, hc8, hr18, hc19, hr25, hc26, hc27d, hc28, hc29d, hc30d, ha31, ha32, hr33, hc34]
    rw [if_pos hc34] at h
    refine RX2_norm fun Z hZ => ?_
    simp only [hc34, Bool.not_true, Bool.not_false]
    refine hZ _ ?_
    first | obtain ⟨ha35, h⟩ := apn_some h | (obtain ⟨ha35, h⟩ := apx_some h; rw [List.nil_append] at h)
    simp only [List.length_append, List.length_cons, List.length_nil, Nat.zero_add, Nat.add_zero, Nat.reduceAdd] at ha35
    obtain ⟨ha36, h⟩ := apx_some h
    simp only [List.length_append, List.length_cons, List.length_nil, Nat.zero_add, Nat.add_zero, Nat.reduceAdd] at ha36
    obtain ⟨r33, hr37, h⟩ := Option.bind_eq_some_iff.1 h
    refine RX2_g rfl fun Z hZ => ?_
    simp only [go_sem, seval, hb1, hx2, hc8, hr18, hc19, hr25, hc26, hc27d, hc28, hc29d, hc30d, ha31, ha32, hr33, hc34, ha35, ha36, hr37]
    repeat with_reducible refine and_bar (by kernel_rfl) ?_
    refine hZ _ ?_
    refine RX2_g rfl fun Z hZ => ?_
    simp only [go_sem, seval, hb1, hx2, hc8, hr18, hc19, hr25, hc26, hc27d, hc28, hc29d, hc30d, ha31, ha32, hr33, hc34, ha35, ha36, hr37]
    repeat with_reducible refine and_bar (by kernel_rfl) ?_
    refine hZ _ ?_
    refine RX2_g rfl fun Z hZ => ?_
    simp only [go_sem, seval, hb1, hx2, hc8, hr18, hc19, hr25, hc26, hc27d, hc28, hc29d, hc30d, ha31, ha32, hr33, hc34, ha35, ha36, hr37]
    repeat with_reducible refine and_bar (by kernel_rfl) ?_
    refine hZ _ ?_
    refine RX2_g rfl fun Z hZ => ?_
    simp only [go_sem, seval, hb1, hx2, hc8, hr18, hc19, hr25, hc26, hc27d, hc28, hc29d, hc30d, ha31, ha32, hr33, hc34, ha35, ha36, hr37]
    repeat with_reducible refine and_bar (by kernel_rfl) ?_
    refine hZ _ ?_
    refine RX2_g rfl fun Z hZ => ?_
    simp only [go_sem, seval, hb1, hx2, hc8, hr18, hc19, hr25, hc26, hc27d, hc28, hc29d, hc30d, ha31, ha32, hr33, hc34, ha35, ha36, hr37]
    repeat with_reducible refine and_bar (by kernel_rfl) ?_
    refine hZ _ ?_
    refine RX2_g rfl fun Z hZ => ?_
    simp only [go_sem, seval, hb1, hx2, hc8, hr18, hc19, hr25, hc26, hc27d, hc28, hc29d, hc30d, ha31, ha32, hr33, hc34, ha35, ha36, hr37]
    repeat with_reducible refine and_bar (by kernel_rfl) ?_
    refine hZ _ ?_
    refine RX2_ag rfl fun Z hZ => ?_
    simp only [go_sem, seval, hb1, hx2, hc8, hr18, hc19, hr25, hc26, hc27d, hc28, hc29d, hc30d, ha31, ha32, hr33, hc34, ha35, ha36, hr37]
    repeat with_reducible refine and_bar (by kernel_rfl) ?_
    refine hZ _ ?_
    refine RX2_g rfl fun Z hZ => ?_
    simp only [go_sem, seval, hb1, hx2, hc8, hr18, hc19, hr25, hc26, hc27d, hc28, hc29d, hc30d, ha31, ha32, hr33, hc34, ha35, ha36, hr37]
    repeat with_reducible refine and_bar (by kernel_rfl) ?_
    refine hZ _ ?_
    refine RX2_g rfl fun Z hZ => ?_
    simp only [go_sem, seval, hb1, hx2, hc8, hr18, hc19, hr25, hc26, hc27d, hc28, hc29d, hc30d, ha31, ha32, hr33, hc34, ha35, ha36, hr37]
    repeat with_reducible refine and_bar (by kernel_rfl) ?_
    refine hZ _ ?_
    refine RX2_g rfl fun Z hZ => ?_
    simp only [go_sem, seval, hb1, hx2, hc8, hr18, hc19, hr25, hc26, hc27d, hc28, hc29d, hc30d, ha31, ha32, hr33, hc34, ha35, ha36, hr37]
    repeat with_reducible refine and_bar (by kernel_rfl) ?_
    refine hZ _ ?_
    refine RX2_ag rfl fun Z hZ => ?_
    simp only [go_sem, seval, hb1, hx2, hc8, hr18, hc19, hr25, hc26, hc27d, hc28, hc29d, hc30d, ha31, ha32, hr33, hc34, ha35, ha36, hr37]
    repeat with_reducible refine and_bar (by kernel_rfl) ?_
    refine hZ _ ?_
    refine RX2_g rfl fun Z hZ => ?_
    simp only [go_sem, seval, hb1, hx2, hc8, hr18, hc19, hr25, hc26, hc27d, hc28, hc29d, hc30d, ha31, ha32, hr33, hc34, ha35, ha36, hr37]
    repeat with_reducible refine and_bar (by kernel_rfl) ?_
    refine hZ _ ?_
    refine RX2_g rfl fun Z hZ => ?_
    simp only [go_sem, seval, hb1, hx2, hc8, hr18, hc19, hr25, hc26, hc27d, hc28, hc29d, hc30d, ha31, ha32, hr33, hc34, ha35, ha36, hr37]
    repeat with_reducible refine and_bar (by kernel_rfl) ?_
    refine hZ _ ?_
    refine RX2_s rfl rfl fun Z hZ => ?_
    simp only [go_sem, seval, hb1, hx2, hc8, hr18, hc19, hr25, hc26, hc27d, hc28, hc29d, hc30d, ha31, ha32, hr33, hc34, ha35, ha36, hr37]
    repeat with_reducible refine and_bar (by kernel_rfl) ?_
    refine hZ _ ?_
    refine RX2_end (by kernel_rfl) (hY _ (pp ?_))
    refine hJ24 _ (!r33) ?_ h
    refine weak_roots ?_ ?_ <;> repeat' first | exact xn | exact rn | refine xc ?_ ?_ | refine rc ?_ ?_ ?_ | rfl | simp only [go_sem, seval, Bool.or_self, List.length_set, Int.natCast_zero, Int.cast_ofNat_Int, hb1, hx2, hc8, hr18, hc19, hr25, hc26, hc27d, hc28, hc29d, hc30d, ha31, ha32, hr33, hc34, ha35, ha36, hr37]
  intro c30 h
  unfold ref24_turn_J3 at h
  refine Wk_cond_bool rfl (fun hc38 => ?_) (fun hc38 => ?_)
  · rw [if_pos hc38] at h
    refine Wk_seq (Wk_regionZ fun Z hZ => ?_)
    simp only [go_sem, seval, hb1, hx2, hc8, hr18, hc19, hc38]
    refine hZ _ (pp ?_)
    refine Wk_ret (pp ?_)
    cases h
    simp only [go_sem, seval, hb1, hx2, hc8, hr18, hc19, hc38]
    exact ⟨_, rfl, RokI.h, PureI.h⟩
  rw [if_neg (ne_true_of_eq_false hc38)] at h
  refine Wk_skip (pp ?_)
  unfold ref24_turn_J4 at h
  refine Wk_seq (Wk_seq (Wk_regionZ fun Z hZ => ?_))
  simp only [go_sem, seval, hb1, hx2, hc8, hr18, hc19, hc38]
  refine hZ _ (pp ?_)
  refine Wk_cond_nbool rfl (fun hc39 => ?_) (fun hc39 => ?_)
  · rw [if_neg (ne_true_of_eq_false hc39)] at h
    refine Wk_seq ?_
    obtain ⟨r34, hr40, h⟩ := Option.bind_eq_some_iff.1 h
    refine Wk_regionZ fun Z hZ => ?_
    simp only [go_sem, seval, hb1, hx2, hc8, hr18, hc19, hc38, hc39, hr40]
    refine hZ _ (pp ?_)
    refine Wk_ret (pp ?_)
    cases h
    simp only [go_sem, seval, hb1, hx2, hc8, hr18, hc19, hc38, hc39, hr40]
    exact ⟨_, rfl, RokI.h, PureI.h⟩
  rw [if_pos hc39] at h
  refine Wk_skip (pp ?_)
  refine Wk_seq (Wk_regionZ fun Z hZ => ?_)
  simp only [go_sem, seval, hb1, hx2, hc8, hr18, hc19, hc38, hc39]
  refine sw (RX_guard_bool rfl) (fun hc41 => ?_) (fun hc41 => ?_)
  · rw [if_neg (ne_true_of_eq_false hc41)] at h
    simp only [go_sem, seval, hb1, hx2, hc8, hr18, hc19, hc38, hc39, hc41]
    refine hZ _ (pp ?_)
    refine Wk_ret (pp ?_)
    cases h
    simp only [go_sem, seval, hb1, hx2, hc8, hr18, hc19, hc38, hc39, hc41]
    exact ⟨_, rfl, RokI.h, PureI.h⟩
  rw [if_pos hc41] at h
  obtain ⟨r35, hr42, h⟩ := Option.bind_eq_some_iff.1 h
  simp only [go_sem, seval, hb1, hx2, hc8, hr18, hc19, hc38, hc39, hc41, hr42]
  refine RX_guard_bool rfl (fun hc43 => ?_) (fun hc43 => ?_)
  · rw [if_pos hc43] at h
    obtain ⟨r36, hr44, h⟩ := Option.bind_eq_some_iff.1 h
    simp only [go_sem, seval, hb1, hx2, hc8, hr18, hc19, hc38, hc39, hc41, hr42, hc43, hr44]
    refine hZ _ (pp ?_)
    refine Wk_ret (pp ?_)
    cases h
    simp only [go_sem, seval, hb1, hx2, hc8, hr18, hc19, hc38, hc39, hc41, hr42, hc43, hr44]
    exact ⟨_, rfl, RokI.h, PureI.h⟩
  rw [if_neg (ne_true_of_eq_false hc43)] at h
  simp only [go_sem, seval, hb1, hx2, hc8, hr18, hc19, hc38, hc39, hc41, hr42, hc43]
  refine hZ _ (pp ?_)
  refine Wk_ret (pp ?_)
  cases h
  simp only [go_sem, seval, hb1, hx2, hc8, hr18, hc19, hc38, hc39, hc41, hr42, hc43]
  exact ⟨_, rfl, RokI.h, PureI.h⟩
def fs_ref24_turn (N : Nat) : FnS := { own := [], pure := true, fn := fun cs => match cs with
  | [c0, c1] => (Actor.decA c0).bind fun qc0 => ((decI .i64) c1).bind fun qc1 => (ref24_turn N qc0 qc1).map fun r => .val (.bool r)
  | _ => none }
attribute [go_sem] fs_ref24_turn
theorem fs_ref24_turn_ok (N : Nat) : FSOk Try.prog 58 (fs_ref24_turn N) := by
  refine ⟨fun cs r h => ?_, fun h => by cases h⟩
  simp only [fs_ref24_turn] at h
  split at h
  · simp only [Option.bind_eq_some_iff, Option.map_eq_some_iff] at h
    obtain ⟨q0, h0, q1, h1, r', hr, rfl⟩ := h
    exact ((w_ref24_turn N q0 q1 r' hr).args (LeL.cons (Actor.decA_le h0) (LeL.cons (decI_le h1) (LeL.nil))))
  · cases h


noncomputable def G_ref24_Valid (N d f : Nat) : Option FnS := glist [(6, 46, fs_ref14_ValidRef N), (33, 58, fs_ref24_turn N)] d f
attribute [go_sem] G_ref24_Valid
set_option maxHeartbeats 40000000 in
theorem w_ref24_Valid (N : Nat) (a0 : Actor) (r : Bool) (h : ref24_Valid N a0 = some r) : Con Try.prog 16 [] true [.agg (Actor.row a0)] (.val (.bool r)) := by
  refine fun_ok4 (G := (G_ref24_Valid N)) Try.func16 rfl (by decide) (by kernel_rfl) (gc 6 (fs_ref14_ValidRef_ok N) (gc 33 (fs_ref24_turn_ok N) gn)) [] mix (Nat.le_of_ble_eq_true rfl) ?_
  simp only [Try.f16]
  unfold ref24_Valid at h
  refine Wk_seq (Wk_regionZ fun Z hZ => ?_)
  simp only [go_sem, seval]
  refine hZ _ (pp ?_)
  refine Wk_seq ?_
  apply Wk_join1 (fun (c5 : Bool) => ⟨tab 35 (updT (updT deadT 1 (.pref 1 [] 0 0)) 23 (.val (.bool c5))), (upd RZ 1 (.sl true none 4 (some 1) [Actor.row a0]))⟩)
  · intro hJ1
    obtain ⟨r6, hr2, h⟩ := Option.bind_eq_some_iff.1 h
    refine Wk_regionZ fun Z hZ => ?_
    simp only [go_sem, seval, hr2]
    refine RX_guard_nbool rfl (fun hc3 => ?_) (fun hc3 => ?_)
    · rw [if_neg (ne_true_of_eq_false hc3)] at h
      simp only [go_sem, seval, hr2, hc3]
      refine hZ _ (pp ?_)
      refine hJ1 _ true ?_ h
      refine weak_roots ?_ ?_ <;> repeat' first | exact xn | exact rn | refine xc ?_ ?_ | refine rc ?_ ?_ ?_ | rfl | simp only [go_sem, seval, Bool.or_self, List.length_set, Int.natCast_zero, Int.cast_ofNat_Int, hr2, hc3]
    rw [if_pos hc3] at h
    simp only [go_sem, seval, hr2, hc3]
    refine RX_guard_dec rfl (fun hc4 => ?_) (fun hc4 => ?_)
    · have hc4d := decide_eq_true hc4
      first | rw [if_pos hc4] at h | rw [if_pos hc4d] at h
      simp only [go_sem, seval, hr2, hc3, hc4d]
      refine hZ _ (pp ?_)
      refine hJ1 _ true ?_ h
      refine weak_roots ?_ ?_ <;> repeat' first | exact xn | exact rn | refine xc ?_ ?_ | refine rc ?_ ?_ ?_ | rfl | simp only [go_sem, seval, Bool.or_self, List.length_set, Int.natCast_zero, Int.cast_ofNat_Int, hr2, hc3, hc4d]
    have hc4d := decide_eq_false hc4
    first | rw [if_neg hc4] at h | rw [if_neg (ne_true_of_eq_false hc4d)] at h
    simp only [go_sem, seval, hr2, hc3, hc4d]
    refine RX_guard_dec rfl (fun hc5 => ?_) (fun hc5 => ?_)
    · have hc5d := decide_eq_true hc5
      first | rw [if_pos hc5] at h | rw [if_pos hc5d] at h
      simp only [go_sem, seval, hr2, hc3, hc4d, hc5d]
      refine hZ _ (pp ?_)
      refine hJ1 _ true ?_ h
      refine weak_roots ?_ ?_ <;> repeat' first | exact xn | exact rn | refine xc ?_ ?_ | refine rc ?_ ?_ ?_ | rfl | simp only [go_sem, seval, Bool.or_self, List.length_set, Int.natCast_zero, Int.cast_ofNat_Int, hr2, hc3, hc4d, hc5d]
    have hc5d := decide_eq_false hc5
    first | rw [if_neg hc5] at h | rw [if_neg (ne_true_of_eq_false hc5d)] at h
    simp only [go_sem, seval, hr2, hc3, hc4d, hc5d]
    refine hZ _ (pp ?_)
    refine hJ1 _ (decide (9 < ((a0.Stack.length : Nat) : Int))) ?_ h
    refine weak_roots ?_ ?_ <;> repeat' first | exact xn | exact rn | refine xc ?_ ?_ | refine rc ?_ ?_ ?_ | rfl | simp only [go_sem, seval, Bool.or_self, List.length_set, Int.natCast_zero, Int.cast_ofNat_Int, hr2, hc3, hc4d, hc5d]
  intro c5 h
  unfold ref24_Valid_J1 at h
  refine Wk_cond_bool rfl (fun hc6 => ?_) (fun hc6 => ?_)
  · rw [if_pos hc6] at h
    refine Wk_seq (Wk_regionZ fun Z hZ => ?_)
    simp only [go_sem, seval, hc6]
    refine hZ _ (pp ?_)
    refine Wk_ret (pp ?_)
    cases h
    simp only [go_sem, seval, hc6]
    exact ⟨_, rfl, RokI.h, PureI.h⟩
  rw [if_neg (ne_true_of_eq_false hc6)] at h
  refine Wk_skip (pp ?_)
  unfold ref24_Valid_J2 at h
  refine Wk_seq (Wk_seq (Wk_regionZ fun Z hZ => ?_))
  simp only [go_sem, seval, hc6]
  refine hZ _ (pp ?_)
  refine Wk_block (Wk_real fun hreal8 => ?_)
  have hl7 := hreal8.cell 1 3 (by simp only [go_sem, seval, Bool.or_self, List.length_set, Int.natCast_zero, Int.cast_ofNat_Int, hc6]; rfl) rfl
  rw [List.length_map] at hl7
  refine Wk_count (fun (v6 : Nat) (b : Unit) => ⟨tab 35 (updT (updT deadT 1 (.pref 1 [] 0 0)) 3 (.val (.int .i64 ((v6 : Nat) : Int)))), (upd RZ 1 (.sl true none 4 (some 1) [Actor.row a0]))⟩) () h ?_ ?_
  · refine weak_roots ?_ ?_ <;> repeat' first | exact xn | exact rn | refine xc ?_ ?_ | refine rc ?_ ?_ ?_ | rfl | simp only [go_sem, seval, Bool.or_self, List.length_set, Int.natCast_zero, Int.cast_ofNat_Int, hc6]
  rintro v6 ⟨⟩ _ h -
  rcases (count_cases a0.Stack.length v6).symm with ⟨hi9', hd12⟩ | ⟨hi9', hd12⟩
  · rw [hd12] at h
    simp only [ref24_Valid_L1] at h
    refine Wk_seq (Wk_seq (Wk_regionZ fun Z hZ => ?_))
    simp only [go_sem, seval, hc6, hi9']
    refine hZ _ (pp ?_)
    try simp only [Int.ofNat_lt, hi9', if_true, if_false] at h
    refine Wk_cond_f rfl (Wk_exit (pp ?_))
    refine Wk_seq (Wk_regionZ fun Z hZ => ?_)
    simp only [go_sem, seval, hc6, hi9']
    refine hZ _ (pp ?_)
    refine Wk_ret (pp ?_)
    cases h
    simp only [go_sem, seval, hc6, hi9']
    exact ⟨_, rfl, RokI.h, PureI.h⟩
  rw [hd12] at h
  simp only [ref24_Valid_L1] at h
  have hw11 := wrap_succ hi9' hl7
  refine Wk_seq (Wk_seq (Wk_regionZ fun Z hZ => ?_))
  simp only [go_sem, seval, hc6, hi9', hw11]
  refine hZ _ (pp ?_)
  try simp only [Int.ofNat_lt, hi9', if_true, if_false] at h
  refine Wk_cond_t rfl (Wk_skip (pp ?_))
  refine Wk_seq (Wk_block (Wk_seq ?_))
  obtain ⟨r7, hr13, h⟩ := Option.bind_eq_some_iff.1 h
  refine Wk_regionZ fun Z hZ => ?_
  simp only [go_sem, seval, hc6, hi9', hw11, hr13]
  refine hZ _ (pp ?_)
  refine Wk_cond_nbool rfl (fun hc14 => ?_) (fun hc14 => ?_)
  · rw [if_neg (ne_true_of_eq_false hc14)] at h
    refine Wk_seq (Wk_regionZ fun Z hZ => ?_)
    simp only [go_sem, seval, hc6, hi9', hw11, hr13, hc14]
    refine hZ _ (pp ?_)
    refine Wk_ret (pp ?_)
    cases h
    simp only [go_sem, seval, hc6, hi9', hw11, hr13, hc14]
    exact ⟨_, rfl, RokI.h, PureI.h⟩
  rw [if_pos hc14] at h
  refine Wk_skip (pp ?_)
  refine Wk_regionZ fun Z hZ => ?_
  simp only [go_sem, seval, hc6, hi9', hw11, hr13, hc14]
  refine hZ _ (pp ?_)
  first | refine ⟨(), ?_, h⟩ | refine ⟨hi9', (), ?_, h⟩
  refine weak_roots ?_ ?_ <;> repeat' first | exact xn | exact rn | refine xc ?_ ?_ | refine rc ?_ ?_ ?_ | rfl | simp only [go_sem, seval, Bool.or_self, List.length_set, Int.natCast_zero, Int.cast_ofNat_Int, hc6, hi9', hw11, hr13, hc14]
def fs_ref24_Valid (N : Nat) : FnS := { own := [], pure := true, fn := fun cs => match cs with
  | [c0] => (Actor.decA c0).bind fun qc0 => (ref24_Valid N qc0).map fun r => .val (.bool r)
  | _ => none }
attribute [go_sem] fs_ref24_Valid
theorem fs_ref24_Valid_ok (N : Nat) : FSOk Try.prog 16 (fs_ref24_Valid N) := by
  refine ⟨fun cs r h => ?_, fun h => by cases h⟩
  simp only [fs_ref24_Valid] at h
  split at h
  · simp only [Option.bind_eq_some_iff, Option.map_eq_some_iff] at h
    obtain ⟨q0, h0, r', hr, rfl⟩ := h
    exact ((w_ref24_Valid N q0 r' hr).args (LeL.cons (Actor.decA_le h0) (LeL.nil)))
  · cases h


set_option maxHeartbeats 40000000 in
theorem w_ref24_top (N : Nat) (a0 : Actor) (r : Turn × Bool) (h : ref24_top N a0 = some r) : Con Try.prog 52 [] false [.agg (Actor.row a0)] (.tup [.agg (Turn.row r.1), .val (.bool r.2)]) := by
  refine fun_ok4 (G := (glist [])) Try.func52 rfl (by decide) (by kernel_rfl) gn [] mix (Nat.le_of_ble_eq_true rfl) ?_
  simp only [Try.f52]
  unfold ref24_top at h
  refine Wk_seq (Wk_regionZ fun Z hZ => ?_)
  simp only [go_sem, seval]
  refine hZ _ (pp ?_)
  refine Wk_seq (Wk_seq (Wk_regionZ fun Z hZ => ?_))
  simp only [go_sem, seval]
  refine hZ _ (pp ?_)
  refine Wk_cond_dec rfl (fun hc1 => ?_) (fun hc1 => ?_)
  · have hc1d := decide_eq_true hc1
    first | rw [if_pos hc1] at h | rw [if_pos hc1d] at h
    refine Wk_seq (Wk_regionZ fun Z hZ => ?_)
    simp only [go_sem, seval, hc1d]
    refine hZ _ (pp ?_)
    refine Wk_ret (pp ?_)
    cases h
    simp only [go_sem, seval, hc1d]
    exact ⟨_, rfl, RokI.h⟩
  have hc1d := decide_eq_false hc1
  first | rw [if_neg hc1] at h | rw [if_neg (ne_true_of_eq_false hc1d)] at h
  refine Wk_skip (pp ?_)
  refine Wk_seq ?_
  obtain ⟨x1, hb2, hx3, h⟩ := gx_some h
  refine Wk_regionZ fun Z hZ => ?_
  simp only [go_sem, seval, hc1d, hb2, hx3]
  refine hZ _ (pp ?_)
  refine Wk_ret (pp ?_)
  cases h
  simp only [go_sem, seval, hc1d, hb2, hx3]
  exact ⟨_, rfl, RokI.h⟩
def fs_ref24_top (N : Nat) : FnS := { own := [], pure := false, fn := fun cs => match cs with
  | [c0] => (Actor.decA c0).bind fun qc0 => (ref24_top N qc0).map fun r => .tup [.agg (Turn.row r.1), .val (.bool r.2)]
  | _ => none }
attribute [go_sem] fs_ref24_top
theorem fs_ref24_top_ok (N : Nat) : FSOk Try.prog 52 (fs_ref24_top N) := by
  refine ⟨fun cs r h => ?_, fun h => by cases h⟩
  simp only [fs_ref24_top] at h
  split at h
  · simp only [Option.bind_eq_some_iff, Option.map_eq_some_iff] at h
    obtain ⟨q0, h0, r', hr, rfl⟩ := h
    exact ((w_ref24_top N q0 r' hr).args (LeL.cons (Actor.decA_le h0) (LeL.nil)))
  · cases h


noncomputable def G_ref24_Nested (N d f : Nat) : Option FnS := glist [(15, 18, fs_ref24_ValidRequest N), (29, 46, fs_ref14_ValidRef N), (34, 46, fs_ref14_ValidRef N), (39, 64, fs_ref24_ValidName N), (44, 66, fs_ref24_validArgs N)] d f
attribute [go_sem] G_ref24_Nested
set_option maxHeartbeats 40000000 in
theorem w_ref24_Nested (N : Nat) (a0 : Turn) (a1 : Ref) (a2 : Ref) (a3 : ByteArray) (a4 : (List Value)) (r : Request × Int) (h : ref24_Nested N a0 a1 a2 a3 a4 = some r) : Con Try.prog 44 [] false [.agg (Turn.row a0), .agg [.val (.string a1.Type_), .val (.string a1.Key)], .agg [.val (.string a2.Type_), .val (.string a2.Key)], .val (.string a3), .sl false none 5 none (a4.map Value.row)] (.tup [.agg [.val (.string r.1.Client), .val (.int .i64 r.1.Seq), .sl true none 1 none (r.1.Path.map (rowI .i64)), .val (.string r.1.Target.Type_), .val (.string r.1.Target.Key), .val (.string r.1.Method), .sl false none 5 none (r.1.Args.map Value.row), .sl true none 2 none (r.1.Chain.map Ref.row), .val (.int .i64 r.1.Txn)], .val (.int .i64 r.2)]) := by
  refine fun_ok4 (G := (G_ref24_Nested N)) Try.func44 rfl (by decide) (by kernel_rfl) (gc 15 (fs_ref24_ValidRequest_ok N) (gc 29 (fs_ref14_ValidRef_ok N) (gc 34 (fs_ref14_ValidRef_ok N) (gc 39 (fs_ref24_ValidName_ok N) (gc 44 (fs_ref24_validArgs_ok N) gn))))) [] mix (Nat.le_of_ble_eq_true rfl) ?_
  simp only [Try.f44]
  unfold ref24_Nested at h
  refine Wk_seq (Wk_regionZ fun Z hZ => ?_)
  simp only [go_sem, seval]
  refine hZ _ (pp ?_)
  refine Wk_seq ?_
  apply Wk_join1 (fun (c13 : Bool) => ⟨tab 92 (updT (updT (updT (updT (updT (updT (updT deadT 3 (.val (.string a3))) 4 (.sl false none 5 none (a4.map Value.row))) 5 (.pref 5 [] 0 0)) 6 (.pref 6 [] 0 0)) 7 (.pref 7 [] 0 0)) 10 (.pref 10 [] 0 0)) 46 (.val (.bool c13))), (upd (upd (upd (upd RZ 5 (.sl true none 30 (some 1) [Turn.row a0])) 6 (.sl true none 2 (some 1) [[.val (.string a1.Type_), .val (.string a1.Key)]])) 7 (.sl true none 2 (some 1) [[.val (.string a2.Type_), .val (.string a2.Key)]])) 10 (.sl true none 9 (some 1) [[.val (.string (⟨#[]⟩)), .val (.int .i64 0), .val (.slice none 0 0), .val (.string (⟨#[]⟩)), .val (.string (⟨#[]⟩)), .val (.string (⟨#[]⟩)), .val (.slice none 0 0), .val (.slice none 0 0), .val (.int .i64 0)]]))⟩)
  · intro hJ1
    obtain ⟨r14, hr2, h⟩ := Option.bind_eq_some_iff.1 h
    refine Wk_regionZ fun Z hZ => ?_
    simp only [go_sem, seval, hr2]
    refine RX_guard_nbool rfl (fun hc3 => ?_) (fun hc3 => ?_)
    · rw [if_neg (ne_true_of_eq_false hc3)] at h
      simp only [go_sem, seval, hr2, hc3]
      refine hZ _ (pp ?_)
      refine hJ1 _ true ?_ h
      refine weak_roots ?_ ?_ <;> repeat' first | exact xn | exact rn | refine xc ?_ ?_ | refine rc ?_ ?_ ?_ | rfl | simp only [go_sem, seval, Bool.or_self, List.length_set, Int.natCast_zero, Int.cast_ofNat_Int, hr2, hc3]
    rw [if_pos hc3] at h
    simp only [go_sem, seval, hr2, hc3]
    refine RX_guard_dec rfl (fun hc4 => ?_) (fun hc4 => ?_)
    · have hc4d := decide_eq_true hc4
      first | rw [if_pos hc4] at h | rw [if_pos hc4d] at h
      simp only [go_sem, seval, hr2, hc3, hc4d]
      refine hZ _ (pp ?_)
      refine hJ1 _ true ?_ h
      refine weak_roots ?_ ?_ <;> repeat' first | exact xn | exact rn | refine xc ?_ ?_ | refine rc ?_ ?_ ?_ | rfl | simp only [go_sem, seval, Bool.or_self, List.length_set, Int.natCast_zero, Int.cast_ofNat_Int, hr2, hc3, hc4d]
    have hc4d := decide_eq_false hc4
    first | rw [if_neg hc4] at h | rw [if_neg (ne_true_of_eq_false hc4d)] at h
    simp only [go_sem, seval, hr2, hc3, hc4d]
    refine RX_guard_dec rfl (fun hc5 => ?_) (fun hc5 => ?_)
    · have hc5d := decide_eq_true hc5
      first | rw [if_pos hc5] at h | rw [if_pos hc5d] at h
      simp only [go_sem, seval, hr2, hc3, hc4d, hc5d]
      refine hZ _ (pp ?_)
      refine hJ1 _ true ?_ h
      refine weak_roots ?_ ?_ <;> repeat' first | exact xn | exact rn | refine xc ?_ ?_ | refine rc ?_ ?_ ?_ | rfl | simp only [go_sem, seval, Bool.or_self, List.length_set, Int.natCast_zero, Int.cast_ofNat_Int, hr2, hc3, hc4d, hc5d]
    have hc5d := decide_eq_false hc5
    first | rw [if_neg hc5] at h | rw [if_neg (ne_true_of_eq_false hc5d)] at h
    obtain ⟨r15, hr6, h⟩ := Option.bind_eq_some_iff.1 h
    simp only [go_sem, seval, hr2, hc3, hc4d, hc5d, hr6]
    refine RX_guard_nbool rfl (fun hc7 => ?_) (fun hc7 => ?_)
    · rw [if_neg (ne_true_of_eq_false hc7)] at h
      simp only [go_sem, seval, hr2, hc3, hc4d, hc5d, hr6, hc7]
      refine hZ _ (pp ?_)
      refine hJ1 _ true ?_ h
      refine weak_roots ?_ ?_ <;> repeat' first | exact xn | exact rn | refine xc ?_ ?_ | refine rc ?_ ?_ ?_ | rfl | simp only [go_sem, seval, Bool.or_self, List.length_set, Int.natCast_zero, Int.cast_ofNat_Int, hr2, hc3, hc4d, hc5d, hr6, hc7]
    rw [if_pos hc7] at h
    obtain ⟨r16, hr8, h⟩ := Option.bind_eq_some_iff.1 h
    simp only [go_sem, seval, hr2, hc3, hc4d, hc5d, hr6, hc7, hr8]
    refine RX_guard_nbool rfl (fun hc9 => ?_) (fun hc9 => ?_)
    · rw [if_neg (ne_true_of_eq_false hc9)] at h
      simp only [go_sem, seval, hr2, hc3, hc4d, hc5d, hr6, hc7, hr8, hc9]
      refine hZ _ (pp ?_)
      refine hJ1 _ true ?_ h
      refine weak_roots ?_ ?_ <;> repeat' first | exact xn | exact rn | refine xc ?_ ?_ | refine rc ?_ ?_ ?_ | rfl | simp only [go_sem, seval, Bool.or_self, List.length_set, Int.natCast_zero, Int.cast_ofNat_Int, hr2, hc3, hc4d, hc5d, hr6, hc7, hr8, hc9]
    rw [if_pos hc9] at h
    obtain ⟨r17, hr10, h⟩ := Option.bind_eq_some_iff.1 h
    simp only [go_sem, seval, hr2, hc3, hc4d, hc5d, hr6, hc7, hr8, hc9, hr10]
    refine RX_guard_nbool rfl (fun hc11 => ?_) (fun hc11 => ?_)
    · rw [if_neg (ne_true_of_eq_false hc11)] at h
      simp only [go_sem, seval, hr2, hc3, hc4d, hc5d, hr6, hc7, hr8, hc9, hr10, hc11]
      refine hZ _ (pp ?_)
      refine hJ1 _ true ?_ h
      refine weak_roots ?_ ?_ <;> repeat' first | exact xn | exact rn | refine xc ?_ ?_ | refine rc ?_ ?_ ?_ | rfl | simp only [go_sem, seval, Bool.or_self, List.length_set, Int.natCast_zero, Int.cast_ofNat_Int, hr2, hc3, hc4d, hc5d, hr6, hc7, hr8, hc9, hr10, hc11]
    rw [if_pos hc11] at h
    obtain ⟨r18, hr12, h⟩ := Option.bind_eq_some_iff.1 h
    simp only [go_sem, seval, hr2, hc3, hc4d, hc5d, hr6, hc7, hr8, hc9, hr10, hc11, hr12]
    refine hZ _ (pp ?_)
    refine hJ1 _ (!r18) ?_ h
    refine weak_roots ?_ ?_ <;> repeat' first | exact xn | exact rn | refine xc ?_ ?_ | refine rc ?_ ?_ ?_ | rfl | simp only [go_sem, seval, Bool.or_self, List.length_set, Int.natCast_zero, Int.cast_ofNat_Int, hr2, hc3, hc4d, hc5d, hr6, hc7, hr8, hc9, hr10, hc11, hr12]
  intro c13 h
  unfold ref24_Nested_J1 at h
  refine Wk_cond_bool rfl (fun hc13 => ?_) (fun hc13 => ?_)
  · rw [if_pos hc13] at h
    refine Wk_seq (Wk_regionZ fun Z hZ => ?_)
    simp only [go_sem, seval, hc13]
    refine hZ _ (pp ?_)
    refine Wk_ret (pp ?_)
    cases h
    simp only [go_sem, seval, hc13]
    exact ⟨_, rfl, RokI.h⟩
  rw [if_neg (ne_true_of_eq_false hc13)] at h
  refine Wk_skip (pp ?_)
  unfold ref24_Nested_J4 at h
  refine Wk_seq ?_
  apply Wk_join1 (fun (c21 : Bool) => ⟨tab 92 (updT (updT (updT (updT (updT (updT (updT deadT 3 (.val (.string a3))) 4 (.sl false none 5 none (a4.map Value.row))) 5 (.pref 5 [] 0 0)) 6 (.pref 6 [] 0 0)) 7 (.pref 7 [] 0 0)) 10 (.pref 10 [] 0 0)) 57 (.val (.bool c21))), (upd (upd (upd (upd RZ 5 (.sl true none 30 (some 1) [Turn.row a0])) 6 (.sl true none 2 (some 1) [[.val (.string a1.Type_), .val (.string a1.Key)]])) 7 (.sl true none 2 (some 1) [[.val (.string a2.Type_), .val (.string a2.Key)]])) 10 (.sl true none 9 (some 1) [[.val (.string (⟨#[]⟩)), .val (.int .i64 0), .val (.slice none 0 0), .val (.string (⟨#[]⟩)), .val (.string (⟨#[]⟩)), .val (.string (⟨#[]⟩)), .val (.slice none 0 0), .val (.slice none 0 0), .val (.int .i64 0)]]))⟩)
  · intro hJ14
    refine Wk_regionZ fun Z hZ => ?_
    simp only [go_sem, seval, hc13]
    refine RX_guard_dec rfl (fun hc15 => ?_) (fun hc15 => ?_)
    · have hc15d := decide_eq_true hc15
      first | rw [if_pos hc15] at h | rw [if_pos hc15d] at h
      simp only [go_sem, seval, hc13, hc15d]
      refine hZ _ (pp ?_)
      refine hJ14 _ true ?_ h
      refine weak_roots ?_ ?_ <;> repeat' first | exact xn | exact rn | refine xc ?_ ?_ | refine rc ?_ ?_ ?_ | rfl | simp only [go_sem, seval, Bool.or_self, List.length_set, Int.natCast_zero, Int.cast_ofNat_Int, hc13, hc15d]
    have hc15d := decide_eq_false hc15
    first | rw [if_neg hc15] at h | rw [if_neg (ne_true_of_eq_false hc15d)] at h
    simp only [go_sem, seval, hc13, hc15d]
    refine hZ _ (pp ?_)
    refine hJ14 _ (decide (a0.Calls = 1099511627776)) ?_ h
    refine weak_roots ?_ ?_ <;> repeat' first | exact xn | exact rn | refine xc ?_ ?_ | refine rc ?_ ?_ ?_ | rfl | simp only [go_sem, seval, Bool.or_self, List.length_set, Int.natCast_zero, Int.cast_ofNat_Int, hc13, hc15d]
  intro c21 h
  unfold ref24_Nested_J2 at h
  refine Wk_cond_bool rfl (fun hc16 => ?_) (fun hc16 => ?_)
  · rw [if_pos hc16] at h
    refine Wk_seq (Wk_regionZ fun Z hZ => ?_)
    simp only [go_sem, seval, hc13, hc16]
    refine hZ _ (pp ?_)
    refine Wk_ret (pp ?_)
    cases h
    simp only [go_sem, seval, hc13, hc16]
    exact ⟨_, rfl, RokI.h⟩
  rw [if_neg (ne_true_of_eq_false hc16)] at h
  refine Wk_skip (pp ?_)
  unfold ref24_Nested_J3 at h
  refine Wk_seq (Wk_regionZ fun Z hZ => ?_)
  simp only [go_sem, seval, hc13, hc16]
  refine hZ _ (pp ?_)
  refine Wk_seq ?_
  first | obtain ⟨ha17, h⟩ := apn_some h | (obtain ⟨ha17, h⟩ := apx_some h; rw [List.nil_append] at h)
  simp only [List.length_append, List.length_cons, List.length_nil, Nat.zero_add, Nat.add_zero, Nat.reduceAdd] at ha17
  obtain ⟨ha18, h⟩ := apx_some h
  simp only [List.length_append, List.length_cons, List.length_nil, Nat.zero_add, Nat.add_zero, Nat.reduceAdd] at ha18
  refine Wk_regionH fun Y hY => ?_
  refine RX2_s rfl rfl fun Z hZ => ?_
  simp only [go_sem, seval, hc13, hc16, ha17, ha18]
  repeat with_reducible refine and_bar (by kernel_rfl) ?_
  refine hZ _ ?_
  refine RX2_s rfl rfl fun Z hZ => ?_
  simp only [go_sem, seval, hc13, hc16, ha17, ha18]
  repeat with_reducible refine and_bar (by kernel_rfl) ?_
  refine hZ _ ?_
  refine RX2_s rfl rfl fun Z hZ => ?_
  simp only [go_sem, seval, hc13, hc16, ha17, ha18]
  repeat with_reducible refine and_bar (by kernel_rfl) ?_
  refine hZ _ ?_
  refine RX2_s rfl rfl fun Z hZ => ?_
  simp only [go_sem, seval, hc13, hc16, ha17, ha18]
  repeat with_reducible refine and_bar (by kernel_rfl) ?_
  refine hZ _ ?_
  refine RX2_a fun Z hZ => ?_
  simp only [go_sem, seval, hc13, hc16, ha17, ha18]
  repeat with_reducible refine and_bar (by kernel_rfl) ?_
  refine hZ _ ?_
  refine RX2_s rfl rfl fun Z hZ => ?_
  simp only [go_sem, seval, hc13, hc16, ha17, ha18]
  repeat with_reducible refine and_bar (by kernel_rfl) ?_
  refine hZ _ ?_
  refine RX2_s rfl rfl fun Z hZ => ?_
  simp only [go_sem, seval, hc13, hc16, ha17, ha18]
  repeat with_reducible refine and_bar (by kernel_rfl) ?_
  refine hZ _ ?_
  refine RX2_s rfl rfl fun Z hZ => ?_
  simp only [go_sem, seval, hc13, hc16, ha17, ha18]
  repeat with_reducible refine and_bar (by kernel_rfl) ?_
  refine hZ _ ?_
  refine RX2_a fun Z hZ => ?_
  simp only [go_sem, seval, hc13, hc16, ha17, ha18]
  repeat with_reducible refine and_bar (by kernel_rfl) ?_
  refine hZ _ ?_
  refine RX2_s rfl rfl fun Z hZ => ?_
  simp only [go_sem, seval, hc13, hc16, ha17, ha18]
  repeat with_reducible refine and_bar (by kernel_rfl) ?_
  refine hZ _ ?_
  refine RX2_w fun Z hZ => ?_
  simp only [go_sem, seval, hc13, hc16, ha17, ha18]
  repeat with_reducible refine and_bar (by kernel_rfl) ?_
  refine hZ _ ?_
  refine RX2_end (by kernel_rfl) (hY _ (pp ?_))
  refine Wk_seq ?_
  first | obtain ⟨ha19, h⟩ := apn_some h | (obtain ⟨ha19, h⟩ := apx_some h; rw [List.nil_append] at h)
  simp only [List.length_append, List.length_cons, List.length_nil, Nat.zero_add, Nat.add_zero, Nat.reduceAdd] at ha19
  obtain ⟨ha20, h⟩ := apx_some h
  simp only [List.length_append, List.length_cons, List.length_nil, Nat.zero_add, Nat.add_zero, Nat.reduceAdd] at ha20
  refine Wk_regionH fun Y hY => ?_
  refine RX2_s rfl rfl fun Z hZ => ?_
  simp only [go_sem, seval, hc13, hc16, ha17, ha18, ha19, ha20]
  repeat with_reducible refine and_bar (by kernel_rfl) ?_
  refine hZ _ ?_
  refine RX2_s rfl rfl fun Z hZ => ?_
  simp only [go_sem, seval, hc13, hc16, ha17, ha18, ha19, ha20]
  repeat with_reducible refine and_bar (by kernel_rfl) ?_
  refine hZ _ ?_
  refine RX2_s rfl rfl fun Z hZ => ?_
  simp only [go_sem, seval, hc13, hc16, ha17, ha18, ha19, ha20]
  repeat with_reducible refine and_bar (by kernel_rfl) ?_
  refine hZ _ ?_
  refine RX2_s rfl rfl fun Z hZ => ?_
  simp only [go_sem, seval, hc13, hc16, ha17, ha18, ha19, ha20]
  repeat with_reducible refine and_bar (by kernel_rfl) ?_
  refine hZ _ ?_
  refine RX2_a fun Z hZ => ?_
  simp only [go_sem, seval, hc13, hc16, ha17, ha18, ha19, ha20]
  repeat with_reducible refine and_bar (by kernel_rfl) ?_
  refine hZ _ ?_
  refine RX2_s rfl rfl fun Z hZ => ?_
  simp only [go_sem, seval, hc13, hc16, ha17, ha18, ha19, ha20]
  repeat with_reducible refine and_bar (by kernel_rfl) ?_
  refine hZ _ ?_
  refine RX2_s rfl rfl fun Z hZ => ?_
  simp only [go_sem, seval, hc13, hc16, ha17, ha18, ha19, ha20]
  repeat with_reducible refine and_bar (by kernel_rfl) ?_
  refine hZ _ ?_
  refine RX2_a fun Z hZ => ?_
  simp only [go_sem, seval, hc13, hc16, ha17, ha18, ha19, ha20]
  repeat with_reducible refine and_bar (by kernel_rfl) ?_
  refine hZ _ ?_
  refine RX2_s rfl rfl fun Z hZ => ?_
  simp only [go_sem, seval, hc13, hc16, ha17, ha18, ha19, ha20]
  repeat with_reducible refine and_bar (by kernel_rfl) ?_
  refine hZ _ ?_
  refine RX2_w fun Z hZ => ?_
  simp only [go_sem, seval, hc13, hc16, ha17, ha18, ha19, ha20]
  repeat with_reducible refine and_bar (by kernel_rfl) ?_
  refine hZ _ ?_
  refine RX2_end (by kernel_rfl) (hY _ (pp ?_))
  refine Wk_seq (Wk_regionZ fun Z hZ => ?_)
  simp only [go_sem, seval, hc13, hc16, ha17, ha18, ha19, ha20]
  refine hZ _ (pp ?_)
  refine Wk_ret (pp ?_)
  cases h
  simp only [go_sem, seval, hc13, hc16, ha17, ha18, ha19, ha20]
  exact ⟨_, rfl, RokI.h⟩
def fs_ref24_Nested (N : Nat) : FnS := { own := [], pure := false, fn := fun cs => match cs with
  | [c0, c1, c2, c3, c4] => (Turn.decA c0).bind fun qc0 => (Ref.decA c1).bind fun qc1 => (Ref.decA c2).bind fun qc2 => (decS c3).bind fun qc3 => ((decL 5 Value.dec) c4).bind fun qc4 => (ref24_Nested N qc0 qc1 qc2 qc3 qc4).map fun r => .tup [.agg (Request.row r.1), .val (.int .i64 r.2)]
  | _ => none }
attribute [go_sem] fs_ref24_Nested
theorem fs_ref24_Nested_ok (N : Nat) : FSOk Try.prog 44 (fs_ref24_Nested N) := by
  refine ⟨fun cs r h => ?_, fun h => by cases h⟩
  simp only [fs_ref24_Nested] at h
  split at h
  · simp only [Option.bind_eq_some_iff, Option.map_eq_some_iff] at h
    obtain ⟨q0, h0, q1, h1, q2, h2, q3, h3, q4, h4, r', hr, rfl⟩ := h
    exact (((w_ref24_Nested N q0 q1 q2 q3 q4 r' hr).args (LeL.cons (Turn.decA_le h0) (LeL.cons (Ref.decA_le h1) (LeL.cons (Ref.decA_le h2) (LeL.cons (decS_le h3) (LeL.cons (decL_le Value.dec_le h4) (LeL.nil))))))).res (by (try simp only [go_sem]); exact RokI.h))
  · cases h

def fso_ref24_Nested (N : Nat) : FnS := { own := [], pure := false, fn := fun cs => match cs with
  | [c0, c1, c2, c3, c4] => (Turn.decA c0).bind fun qc0 => (Ref.decA c1).bind fun qc1 => (Ref.decA c2).bind fun qc2 => (decS c3).bind fun qc3 => ((decL 5 Value.dec) c4).bind fun qc4 => (ref24_Nested N qc0 qc1 qc2 qc3 qc4).map fun r => .tup [.agg [.val (.string r.1.Client), .val (.int .i64 r.1.Seq), .sl true none 1 none (r.1.Path.map (rowI .i64)), .val (.string r.1.Target.Type_), .val (.string r.1.Target.Key), .val (.string r.1.Method), .sl false none 5 none (r.1.Args.map Value.row), .sl true none 2 none (r.1.Chain.map Ref.row), .val (.int .i64 r.1.Txn)], .val (.int .i64 r.2)]
  | _ => none }
attribute [go_sem] fso_ref24_Nested
theorem fso_ref24_Nested_ok (N : Nat) : FSOk Try.prog 44 (fso_ref24_Nested N) := by
  refine ⟨fun cs r h => ?_, fun h => by cases h⟩
  simp only [fso_ref24_Nested] at h
  split at h
  · simp only [Option.bind_eq_some_iff, Option.map_eq_some_iff] at h
    obtain ⟨q0, h0, q1, h1, q2, h2, q3, h3, q4, h4, r', hr, rfl⟩ := h
    exact ((w_ref24_Nested N q0 q1 q2 q3 q4 r' hr).args (LeL.cons (Turn.decA_le h0) (LeL.cons (Ref.decA_le h1) (LeL.cons (Ref.decA_le h2) (LeL.cons (decS_le h3) (LeL.cons (decL_le Value.dec_le h4) (LeL.nil)))))))
  · cases h


set_option maxHeartbeats 40000000 in
theorem w_ref24_with (N : Nat) (a0 : Actor) (a1 : Turn) (r : Actor × Int) (h : ref24_with N a0 a1 = some r) : Con Try.prog 79 [] false [.agg (Actor.row a0), .agg (Turn.row a1)] (.tup [.agg [.val (.string r.1.Self.Type_), .val (.string r.1.Self.Key), .val (.int .i64 r.1.Index), .sl true none 30 none (r.1.Stack.map Turn.row)], .val (.int .i64 r.2)]) := by
  refine fun_ok4 (G := (glist [])) Try.func79 rfl (by decide) (by kernel_rfl) gn [] mix (Nat.le_of_ble_eq_true rfl) ?_
  simp only [Try.f79]
  unfold ref24_with at h
  refine Wk_seq (Wk_regionZ fun Z hZ => ?_)
  simp only [go_sem, seval]
  refine hZ _ (pp ?_)
  refine Wk_seq (Wk_seq (Wk_regionZ fun Z hZ => ?_))
  simp only [go_sem, seval]
  refine hZ _ (pp ?_)
  refine Wk_cond_dec rfl (fun hc1 => ?_) (fun hc1 => ?_)
  · have hc1d := decide_eq_true hc1
    first | rw [if_pos hc1] at h | rw [if_pos hc1d] at h
    refine Wk_seq (Wk_regionZ fun Z hZ => ?_)
    simp only [go_sem, seval, hc1d]
    refine hZ _ (pp ?_)
    refine Wk_ret (pp ?_)
    cases h
    simp only [go_sem, seval, hc1d]
    exact ⟨_, rfl, RokI.h⟩
  have hc1d := decide_eq_false hc1
  first | rw [if_neg hc1] at h | rw [if_neg (ne_true_of_eq_false hc1d)] at h
  refine Wk_skip (pp ?_)
  refine Wk_seq ?_
  obtain ⟨hs2, h⟩ := slx_some h
  try simp only [Int.toNat_natCast, Int.reduceToNat, Int.toNat_zero, Nat.sub_zero, List.drop_zero] at hs2 h
  first | obtain ⟨ha3, h⟩ := apn_some h | (obtain ⟨ha3, h⟩ := apx_some h; rw [List.nil_append] at h)
  simp only [List.length_append, List.length_cons, List.length_nil, Nat.zero_add, Nat.add_zero, Nat.reduceAdd] at ha3
  refine Wk_regionZ fun Z hZ => ?_
  simp only [go_sem, seval, hc1d, hs2, Nat.sub_zero, Nat.zero_le, ha3]
  refine hZ _ (pp ?_)
  refine Wk_seq ?_
  obtain ⟨ha4, h⟩ := apx_some h
  simp only [List.length_append, List.length_cons, List.length_nil, Nat.zero_add, Nat.add_zero, Nat.reduceAdd] at ha4
  refine Wk_regionH fun Y hY => ?_
  refine RX2_s rfl rfl fun Z hZ => ?_
  simp only [go_sem, seval, hc1d, hs2, Nat.sub_zero, Nat.zero_le, ha3, ha4]
  repeat with_reducible refine and_bar (by kernel_rfl) ?_
  refine hZ _ ?_
  refine RX2_s rfl rfl fun Z hZ => ?_
  simp only [go_sem, seval, hc1d, hs2, Nat.sub_zero, Nat.zero_le, ha3, ha4]
  repeat with_reducible refine and_bar (by kernel_rfl) ?_
  refine hZ _ ?_
  refine RX2_s rfl rfl fun Z hZ => ?_
  simp only [go_sem, seval, hc1d, hs2, Nat.sub_zero, Nat.zero_le, ha3, ha4]
  repeat with_reducible refine and_bar (by kernel_rfl) ?_
  refine hZ _ ?_
  refine RX2_s rfl rfl fun Z hZ => ?_
  simp only [go_sem, seval, hc1d, hs2, Nat.sub_zero, Nat.zero_le, ha3, ha4]
  repeat with_reducible refine and_bar (by kernel_rfl) ?_
  refine hZ _ ?_
  refine RX2_s rfl rfl fun Z hZ => ?_
  simp only [go_sem, seval, hc1d, hs2, Nat.sub_zero, Nat.zero_le, ha3, ha4]
  repeat with_reducible refine and_bar (by kernel_rfl) ?_
  refine hZ _ ?_
  refine RX2_s rfl rfl fun Z hZ => ?_
  simp only [go_sem, seval, hc1d, hs2, Nat.sub_zero, Nat.zero_le, ha3, ha4]
  repeat with_reducible refine and_bar (by kernel_rfl) ?_
  refine hZ _ ?_
  refine RX2_s rfl rfl fun Z hZ => ?_
  simp only [go_sem, seval, hc1d, hs2, Nat.sub_zero, Nat.zero_le, ha3, ha4]
  repeat with_reducible refine and_bar (by kernel_rfl) ?_
  refine hZ _ ?_
  refine RX2_s rfl rfl fun Z hZ => ?_
  simp only [go_sem, seval, hc1d, hs2, Nat.sub_zero, Nat.zero_le, ha3, ha4]
  repeat with_reducible refine and_bar (by kernel_rfl) ?_
  refine hZ _ ?_
  refine RX2_a fun Z hZ => ?_
  simp only [go_sem, seval, hc1d, hs2, Nat.sub_zero, Nat.zero_le, ha3, ha4]
  repeat with_reducible refine and_bar (by kernel_rfl) ?_
  refine hZ _ ?_
  refine RX2_s rfl rfl fun Z hZ => ?_
  simp only [go_sem, seval, hc1d, hs2, Nat.sub_zero, Nat.zero_le, ha3, ha4]
  repeat with_reducible refine and_bar (by kernel_rfl) ?_
  refine hZ _ ?_
  refine RX2_w fun Z hZ => ?_
  simp only [go_sem, seval, hc1d, hs2, Nat.sub_zero, Nat.zero_le, ha3, ha4]
  repeat with_reducible refine and_bar (by kernel_rfl) ?_
  refine hZ _ ?_
  refine RX2_s rfl rfl fun Z hZ => ?_
  simp only [go_sem, seval, hc1d, hs2, Nat.sub_zero, Nat.zero_le, ha3, ha4]
  repeat with_reducible refine and_bar (by kernel_rfl) ?_
  refine hZ _ ?_
  refine RX2_end (by kernel_rfl) (hY _ (pp ?_))
  refine Wk_ret (pp ?_)
  cases h
  simp only [go_sem, seval, hc1d, hs2, Nat.sub_zero, Nat.zero_le, ha3, ha4]
  exact ⟨_, rfl, RokI.h⟩
def fs_ref24_with (N : Nat) : FnS := { own := [], pure := false, fn := fun cs => match cs with
  | [c0, c1] => (Actor.decA c0).bind fun qc0 => (Turn.decA c1).bind fun qc1 => (ref24_with N qc0 qc1).map fun r => .tup [.agg (Actor.row r.1), .val (.int .i64 r.2)]
  | _ => none }
attribute [go_sem] fs_ref24_with
theorem fs_ref24_with_ok (N : Nat) : FSOk Try.prog 79 (fs_ref24_with N) := by
  refine ⟨fun cs r h => ?_, fun h => by cases h⟩
  simp only [fs_ref24_with] at h
  split at h
  · simp only [Option.bind_eq_some_iff, Option.map_eq_some_iff] at h
    obtain ⟨q0, h0, q1, h1, r', hr, rfl⟩ := h
    exact (((w_ref24_with N q0 q1 r' hr).args (LeL.cons (Actor.decA_le h0) (LeL.cons (Turn.decA_le h1) (LeL.nil)))).res (by (try simp only [go_sem]); exact RokI.h))
  · cases h

def fso_ref24_with (N : Nat) : FnS := { own := [], pure := false, fn := fun cs => match cs with
  | [c0, c1] => (Actor.decA c0).bind fun qc0 => (Turn.decA c1).bind fun qc1 => (ref24_with N qc0 qc1).map fun r => .tup [.agg [.val (.string r.1.Self.Type_), .val (.string r.1.Self.Key), .val (.int .i64 r.1.Index), .sl true none 30 none (r.1.Stack.map Turn.row)], .val (.int .i64 r.2)]
  | _ => none }
attribute [go_sem] fso_ref24_with
theorem fso_ref24_with_ok (N : Nat) : FSOk Try.prog 79 (fso_ref24_with N) := by
  refine ⟨fun cs r h => ?_, fun h => by cases h⟩
  simp only [fso_ref24_with] at h
  split at h
  · simp only [Option.bind_eq_some_iff, Option.map_eq_some_iff] at h
    obtain ⟨q0, h0, q1, h1, r', hr, rfl⟩ := h
    exact ((w_ref24_with N q0 q1 r' hr).args (LeL.cons (Actor.decA_le h0) (LeL.cons (Turn.decA_le h1) (LeL.nil))))
  · cases h


noncomputable def G_ref24_Suspend (N d f : Nat) : Option FnS := glist [(15, 16, fs_ref24_Valid N), (19, 46, fs_ref14_ValidRef N), (24, 64, fs_ref24_ValidName N), (29, 66, fs_ref24_validArgs N), (35, 52, fs_ref24_top N), (42, 53, fs_ref24_running N), (53, 44, fs_ref24_Nested N), (68, 79, fs_ref24_with N)] d f
attribute [go_sem] G_ref24_Suspend
set_option maxHeartbeats 40000000 in
theorem w_ref24_Suspend (N : Nat) (a0 : Actor) (a1 : Ref) (a2 : ByteArray) (a3 : (List Value)) (r : Actor × Int) (h : ref24_Suspend N a0 a1 a2 a3 = some r) : Con Try.prog 36 [] false [.agg (Actor.row a0), .agg [.val (.string a1.Type_), .val (.string a1.Key)], .val (.string a2), .sl false none 5 none (a3.map Value.row)] (.tup [.agg (Actor.row r.1), .val (.int .i64 r.2)]) := by
  refine fun_ok4 (G := (G_ref24_Suspend N)) Try.func36 rfl (by decide) (by kernel_rfl) (gc 15 (fs_ref24_Valid_ok N) (gc 19 (fs_ref14_ValidRef_ok N) (gc 24 (fs_ref24_ValidName_ok N) (gc 29 (fs_ref24_validArgs_ok N) (gc 35 (fs_ref24_top_ok N) (gc 42 (fs_ref24_running_ok N) (gc 53 (fs_ref24_Nested_ok N) (gc 68 (fs_ref24_with_ok N) gn)))))))) [] mix (Nat.le_of_ble_eq_true rfl) ?_
  simp only [Try.f36]
  unfold ref24_Suspend at h
  refine Wk_seq (Wk_regionZ fun Z hZ => ?_)
  simp only [go_sem, seval]
  refine hZ _ (pp ?_)
  refine Wk_seq ?_
  apply Wk_join1 (fun (c11 : Bool) => ⟨tab 71 (updT (updT (updT (updT (updT (updT deadT 2 (.val (.string a2))) 3 (.sl false none 5 none (a3.map Value.row))) 4 (.pref 4 [] 0 0)) 5 (.pref 5 [] 0 0)) 8 (.pref 8 [] 0 0)) 31 (.val (.bool c11))), (upd (upd (upd RZ 4 (.sl true none 4 (some 1) [Actor.row a0])) 5 (.sl true none 2 (some 1) [[.val (.string a1.Type_), .val (.string a1.Key)]])) 8 (.sl true none 4 (some 1) [[.val (.string (⟨#[]⟩)), .val (.string (⟨#[]⟩)), .val (.int .i64 0), .val (.slice none 0 0)]]))⟩)
  · intro hJ1
    obtain ⟨r12, hr2, h⟩ := Option.bind_eq_some_iff.1 h
    refine Wk_regionZ fun Z hZ => ?_
    simp only [go_sem, seval, hr2]
    refine RX_guard_nbool rfl (fun hc3 => ?_) (fun hc3 => ?_)
    · rw [if_neg (ne_true_of_eq_false hc3)] at h
      simp only [go_sem, seval, hr2, hc3]
      refine hZ _ (pp ?_)
      refine hJ1 _ true ?_ h
      refine weak_roots ?_ ?_ <;> repeat' first | exact xn | exact rn | refine xc ?_ ?_ | refine rc ?_ ?_ ?_ | rfl | simp only [go_sem, seval, Bool.or_self, List.length_set, Int.natCast_zero, Int.cast_ofNat_Int, hr2, hc3]
    rw [if_pos hc3] at h
    obtain ⟨r13, hr4, h⟩ := Option.bind_eq_some_iff.1 h
    simp only [go_sem, seval, hr2, hc3, hr4]
    refine RX_guard_nbool rfl (fun hc5 => ?_) (fun hc5 => ?_)
    · rw [if_neg (ne_true_of_eq_false hc5)] at h
      simp only [go_sem, seval, hr2, hc3, hr4, hc5]
      refine hZ _ (pp ?_)
      refine hJ1 _ true ?_ h
      refine weak_roots ?_ ?_ <;> repeat' first | exact xn | exact rn | refine xc ?_ ?_ | refine rc ?_ ?_ ?_ | rfl | simp only [go_sem, seval, Bool.or_self, List.length_set, Int.natCast_zero, Int.cast_ofNat_Int, hr2, hc3, hr4, hc5]
    rw [if_pos hc5] at h
    obtain ⟨r14, hr6, h⟩ := Option.bind_eq_some_iff.1 h
    simp only [go_sem, seval, hr2, hc3, hr4, hc5, hr6]
    refine RX_guard_nbool rfl (fun hc7 => ?_) (fun hc7 => ?_)
    · rw [if_neg (ne_true_of_eq_false hc7)] at h
      simp only [go_sem, seval, hr2, hc3, hr4, hc5, hr6, hc7]
      refine hZ _ (pp ?_)
      refine hJ1 _ true ?_ h
      refine weak_roots ?_ ?_ <;> repeat' first | exact xn | exact rn | refine xc ?_ ?_ | refine rc ?_ ?_ ?_ | rfl | simp only [go_sem, seval, Bool.or_self, List.length_set, Int.natCast_zero, Int.cast_ofNat_Int, hr2, hc3, hr4, hc5, hr6, hc7]
    rw [if_pos hc7] at h
    obtain ⟨r15, hr8, h⟩ := Option.bind_eq_some_iff.1 h
    simp only [go_sem, seval, hr2, hc3, hr4, hc5, hr6, hc7, hr8]
    refine hZ _ (pp ?_)
    refine hJ1 _ (!r15) ?_ h
    refine weak_roots ?_ ?_ <;> repeat' first | exact xn | exact rn | refine xc ?_ ?_ | refine rc ?_ ?_ ?_ | rfl | simp only [go_sem, seval, Bool.or_self, List.length_set, Int.natCast_zero, Int.cast_ofNat_Int, hr2, hc3, hr4, hc5, hr6, hc7, hr8]
  intro c11 h
  unfold ref24_Suspend_J1 at h
  refine Wk_cond_bool rfl (fun hc9 => ?_) (fun hc9 => ?_)
  · rw [if_pos hc9] at h
    refine Wk_seq (Wk_regionZ fun Z hZ => ?_)
    simp only [go_sem, seval, hc9]
    refine hZ _ (pp ?_)
    refine Wk_ret (pp ?_)
    cases h
    simp only [go_sem, seval, hc9]
    exact ⟨_, rfl, RokI.h⟩
  rw [if_neg (ne_true_of_eq_false hc9)] at h
  refine Wk_skip (pp ?_)
  unfold ref24_Suspend_J4 at h
  refine Wk_seq ?_
  obtain ⟨r16, hr10, h⟩ := Option.bind_eq_some_iff.1 h
  refine Wk_regionZ fun Z hZ => ?_
  simp only [go_sem, seval, hc9, hr10]
  refine hZ _ (pp ?_)
  refine Wk_seq ?_
  apply Wk_join1 (fun (c21 : Bool) => ⟨tab 71 (updT (updT (updT (updT (updT (updT (updT deadT 2 (.val (.string a2))) 3 (.sl false none 5 none (a3.map Value.row))) 4 (.pref 4 [] 0 0)) 5 (.pref 5 [] 0 0)) 8 (.pref 8 [] 0 0)) 10 (.pref 10 [] 0 0)) 44 (.val (.bool c21))), (upd (upd (upd (upd RZ 4 (.sl true none 4 (some 1) [Actor.row a0])) 5 (.sl true none 2 (some 1) [[.val (.string a1.Type_), .val (.string a1.Key)]])) 8 (.sl true none 4 (some 1) [[.val (.string (⟨#[]⟩)), .val (.string (⟨#[]⟩)), .val (.int .i64 0), .val (.slice none 0 0)]])) 10 (.sl true none 30 (some 1) [Turn.row r16.1]))⟩)
  · intro hJ11
    refine Wk_regionZ fun Z hZ => ?_
    simp only [go_sem, seval, hc9, hr10]
    refine RX_guard_nbool rfl (fun hc12 => ?_) (fun hc12 => ?_)
    · rw [if_neg (ne_true_of_eq_false hc12)] at h
      simp only [go_sem, seval, hc9, hr10, hc12]
      refine hZ _ (pp ?_)
      refine hJ11 _ true ?_ h
      refine weak_roots ?_ ?_ <;> repeat' first | exact xn | exact rn | refine xc ?_ ?_ | refine rc ?_ ?_ ?_ | rfl | simp only [go_sem, seval, Bool.or_self, List.length_set, Int.natCast_zero, Int.cast_ofNat_Int, hc9, hr10, hc12]
    rw [if_pos hc12] at h
    obtain ⟨r22, hr13, h⟩ := Option.bind_eq_some_iff.1 h
    simp only [go_sem, seval, hc9, hr10, hc12, hr13]
    refine hZ _ (pp ?_)
    refine hJ11 _ (!r22) ?_ h
    refine weak_roots ?_ ?_ <;> repeat' first | exact xn | exact rn | refine xc ?_ ?_ | refine rc ?_ ?_ ?_ | rfl | simp only [go_sem, seval, Bool.or_self, List.length_set, Int.natCast_zero, Int.cast_ofNat_Int, hc9, hr10, hc12, hr13]
  intro c21 h
  unfold ref24_Suspend_J2 at h
  refine Wk_cond_bool rfl (fun hc14 => ?_) (fun hc14 => ?_)
  · rw [if_pos hc14] at h
    refine Wk_seq (Wk_regionZ fun Z hZ => ?_)
    simp only [go_sem, seval, hc9, hr10, hc14]
    refine hZ _ (pp ?_)
    refine Wk_ret (pp ?_)
    cases h
    simp only [go_sem, seval, hc9, hr10, hc14]
    exact ⟨_, rfl, RokI.h⟩
  rw [if_neg (ne_true_of_eq_false hc14)] at h
  refine Wk_skip (pp ?_)
  unfold ref24_Suspend_J3 at h
  refine Wk_seq ?_
  obtain ⟨r23, hr15, h⟩ := Option.bind_eq_some_iff.1 h
  refine Wk_regionZ fun Z hZ => ?_
  simp only [go_sem, seval, hc9, hr10, hc14, hr15]
  refine hZ _ (pp ?_)
  refine Wk_seq (Wk_seq (Wk_regionZ fun Z hZ => ?_))
  simp only [go_sem, seval, hc9, hr10, hc14, hr15]
  refine hZ _ (pp ?_)
  refine Wk_cond_ndec rfl (fun hc16 => ?_) (fun hc16 => ?_)
  · have hc16d := decide_eq_false hc16
    first | rw [if_neg hc16] at h | rw [if_neg (ne_true_of_eq_false hc16d)] at h
    refine Wk_seq (Wk_regionZ fun Z hZ => ?_)
    simp only [go_sem, seval, hc9, hr10, hc14, hr15, hc16d]
    refine hZ _ (pp ?_)
    refine Wk_ret (pp ?_)
    cases h
    simp only [go_sem, seval, hc9, hr10, hc14, hr15, hc16d]
    exact ⟨_, rfl, RokI.h⟩
  have hc16d := decide_eq_true hc16
  first | rw [if_pos hc16] at h | rw [if_pos hc16d] at h
  refine Wk_skip (pp ?_)
  refine Wk_seq (Wk_regionZ fun Z hZ => ?_)
  simp only [go_sem, seval, hc9, hr10, hc14, hr15, hc16d]
  refine hZ _ (pp ?_)
  refine Wk_seq (Wk_regionZ fun Z hZ => ?_)
  simp only [go_sem, seval, hc9, hr10, hc14, hr15, hc16d]
  refine hZ _ (pp ?_)
  refine Wk_seq ?_
  obtain ⟨r24, hr17, h⟩ := Option.bind_eq_some_iff.1 h
  refine Wk_regionZ fun Z hZ => ?_
  simp only [go_sem, seval, hc9, hr10, hc14, hr15, hc16d, hr17]
  refine hZ _ (pp ?_)
  refine Wk_ret (pp ?_)
  cases h
  simp only [go_sem, seval, hc9, hr10, hc14, hr15, hc16d, hr17]
  exact ⟨_, rfl, RokI.h⟩
def fs_ref24_Suspend (N : Nat) : FnS := { own := [], pure := false, fn := fun cs => match cs with
  | [c0, c1, c2, c3] => (Actor.decA c0).bind fun qc0 => (Ref.decA c1).bind fun qc1 => (decS c2).bind fun qc2 => ((decL 5 Value.dec) c3).bind fun qc3 => (ref24_Suspend N qc0 qc1 qc2 qc3).map fun r => .tup [.agg (Actor.row r.1), .val (.int .i64 r.2)]
  | _ => none }
attribute [go_sem] fs_ref24_Suspend
theorem fs_ref24_Suspend_ok (N : Nat) : FSOk Try.prog 36 (fs_ref24_Suspend N) := by
  refine ⟨fun cs r h => ?_, fun h => by cases h⟩
  simp only [fs_ref24_Suspend] at h
  split at h
  · simp only [Option.bind_eq_some_iff, Option.map_eq_some_iff] at h
    obtain ⟨q0, h0, q1, h1, q2, h2, q3, h3, r', hr, rfl⟩ := h
    exact ((w_ref24_Suspend N q0 q1 q2 q3 r' hr).args (LeL.cons (Actor.decA_le h0) (LeL.cons (Ref.decA_le h1) (LeL.cons (decS_le h2) (LeL.cons (decL_le Value.dec_le h3) (LeL.nil))))))
  · cases h


noncomputable def G_ref24_StartCall (N d f : Nat) : Option FnS := glist [(13, 16, fs_ref24_Valid N), (18, 52, fs_ref24_top N), (25, 53, fs_ref24_running N), (33, 22, fs_ref24_SameID N), (43, 79, fs_ref24_with N)] d f
attribute [go_sem] G_ref24_StartCall
set_option maxHeartbeats 40000000 in
theorem w_ref24_StartCall (N : Nat) (a0 : Actor) (a1 : ByteArray) (a2 : Int) (a3 : (List Int)) (r : Actor × Int) (h : ref24_StartCall N a0 a1 a2 a3 = some r) : Con Try.prog 38 [] false [.agg (Actor.row a0), .val (.string a1), .val (.int .i64 a2), .sl false none 1 none (a3.map (rowI .i64))] (.tup [.agg (Actor.row r.1), .val (.int .i64 r.2)]) := by
  refine fun_ok4 (G := (G_ref24_StartCall N)) Try.func38 rfl (by decide) (by kernel_rfl) (gc 13 (fs_ref24_Valid_ok N) (gc 18 (fs_ref24_top_ok N) (gc 25 (fs_ref24_running_ok N) (gc 33 (fs_ref24_SameID_ok N) (gc 43 (fs_ref24_with_ok N) gn))))) [] mix (Nat.le_of_ble_eq_true rfl) ?_
  simp only [Try.f38]
  unfold ref24_StartCall at h
  refine Wk_seq (Wk_regionZ fun Z hZ => ?_)
  simp only [go_sem, seval]
  refine hZ _ (pp ?_)
  refine Wk_seq (Wk_seq ?_)
  obtain ⟨r1, hr1, h⟩ := Option.bind_eq_some_iff.1 h
  refine Wk_regionZ fun Z hZ => ?_
  simp only [go_sem, seval, hr1]
  refine hZ _ (pp ?_)
  refine Wk_cond_nbool rfl (fun hc2 => ?_) (fun hc2 => ?_)
  · rw [if_neg (ne_true_of_eq_false hc2)] at h
    refine Wk_seq (Wk_regionZ fun Z hZ => ?_)
    simp only [go_sem, seval, hr1, hc2]
    refine hZ _ (pp ?_)
    refine Wk_ret (pp ?_)
    cases h
    simp only [go_sem, seval, hr1, hc2]
    exact ⟨_, rfl, RokI.h⟩
  rw [if_pos hc2] at h
  refine Wk_skip (pp ?_)
  refine Wk_seq ?_
  obtain ⟨r2, hr3, h⟩ := Option.bind_eq_some_iff.1 h
  refine Wk_regionZ fun Z hZ => ?_
  simp only [go_sem, seval, hr1, hc2, hr3]
  refine hZ _ (pp ?_)
  refine Wk_seq ?_
  apply Wk_join1 (fun (c9 : Bool) => ⟨tab 46 (updT (updT (updT (updT deadT 4 (.pref 4 [] 0 0)) 8 (.pref 8 [] 0 0)) 10 (.pref 10 [] 0 0)) 35 (.val (.bool c9))), (upd (upd (upd RZ 4 (.sl true none 4 (some 1) [Actor.row a0])) 8 (.sl true none 4 (some 1) [[.val (.string (⟨#[]⟩)), .val (.string (⟨#[]⟩)), .val (.int .i64 0), .val (.slice none 0 0)]])) 10 (.sl true none 30 (some 1) [Turn.row r2.1]))⟩)
  · intro hJ4
    refine Wk_regionZ fun Z hZ => ?_
    simp only [go_sem, seval, hr1, hc2, hr3]
    refine RX_guard_nbool rfl (fun hc5 => ?_) (fun hc5 => ?_)
    · rw [if_neg (ne_true_of_eq_false hc5)] at h
      simp only [go_sem, seval, hr1, hc2, hr3, hc5]
      refine hZ _ (pp ?_)
      refine hJ4 _ true ?_ h
      refine weak_roots ?_ ?_ <;> repeat' first | exact xn | exact rn | refine xc ?_ ?_ | refine rc ?_ ?_ ?_ | rfl | simp only [go_sem, seval, Bool.or_self, List.length_set, Int.natCast_zero, Int.cast_ofNat_Int, hr1, hc2, hr3, hc5]
    rw [if_pos hc5] at h
    obtain ⟨r10, hr6, h⟩ := Option.bind_eq_some_iff.1 h
    simp only [go_sem, seval, hr1, hc2, hr3, hc5, hr6]
    refine RX_guard_bool rfl (fun hc7 => ?_) (fun hc7 => ?_)
    · rw [if_pos hc7] at h
      simp only [go_sem, seval, hr1, hc2, hr3, hc5, hr6, hc7]
      refine hZ _ (pp ?_)
      refine hJ4 _ true ?_ h
      refine weak_roots ?_ ?_ <;> repeat' first | exact xn | exact rn | refine xc ?_ ?_ | refine rc ?_ ?_ ?_ | rfl | simp only [go_sem, seval, Bool.or_self, List.length_set, Int.natCast_zero, Int.cast_ofNat_Int, hr1, hc2, hr3, hc5, hr6, hc7]
    rw [if_neg (ne_true_of_eq_false hc7)] at h
    obtain ⟨r11, hr8, h⟩ := Option.bind_eq_some_iff.1 h
    simp only [go_sem, seval, hr1, hc2, hr3, hc5, hr6, hc7, hr8]
    refine hZ _ (pp ?_)
    refine hJ4 _ (!r11) ?_ h
    refine weak_roots ?_ ?_ <;> repeat' first | exact xn | exact rn | refine xc ?_ ?_ | refine rc ?_ ?_ ?_ | rfl | simp only [go_sem, seval, Bool.or_self, List.length_set, Int.natCast_zero, Int.cast_ofNat_Int, hr1, hc2, hr3, hc5, hr6, hc7, hr8]
  intro c9 h
  unfold ref24_StartCall_J1 at h
  refine Wk_cond_bool rfl (fun hc9 => ?_) (fun hc9 => ?_)
  · rw [if_pos hc9] at h
    refine Wk_seq (Wk_regionZ fun Z hZ => ?_)
    simp only [go_sem, seval, hr1, hc2, hr3, hc9]
    refine hZ _ (pp ?_)
    refine Wk_ret (pp ?_)
    cases h
    simp only [go_sem, seval, hr1, hc2, hr3, hc9]
    exact ⟨_, rfl, RokI.h⟩
  rw [if_neg (ne_true_of_eq_false hc9)] at h
  refine Wk_skip (pp ?_)
  unfold ref24_StartCall_J2 at h
  refine Wk_seq (Wk_seq (Wk_regionZ fun Z hZ => ?_))
  simp only [go_sem, seval, hr1, hc2, hr3, hc9]
  refine hZ _ (pp ?_)
  refine Wk_cond_bool rfl (fun hc10 => ?_) (fun hc10 => ?_)
  · rw [if_pos hc10] at h
    refine Wk_seq (Wk_regionZ fun Z hZ => ?_)
    simp only [go_sem, seval, hr1, hc2, hr3, hc9, hc10]
    refine hZ _ (pp ?_)
    refine Wk_ret (pp ?_)
    cases h
    simp only [go_sem, seval, hr1, hc2, hr3, hc9, hc10]
    exact ⟨_, rfl, RokI.h⟩
  rw [if_neg (ne_true_of_eq_false hc10)] at h
  refine Wk_skip (pp ?_)
  refine Wk_seq (Wk_regionZ fun Z hZ => ?_)
  simp only [go_sem, seval, hr1, hc2, hr3, hc9, hc10]
  refine hZ _ (pp ?_)
  refine Wk_seq ?_
  obtain ⟨r12, hr11, h⟩ := Option.bind_eq_some_iff.1 h
  refine Wk_regionZ fun Z hZ => ?_
  simp only [go_sem, seval, hr1, hc2, hr3, hc9, hc10, hr11]
  refine hZ _ (pp ?_)
  refine Wk_ret (pp ?_)
  cases h
  simp only [go_sem, seval, hr1, hc2, hr3, hc9, hc10, hr11]
  exact ⟨_, rfl, RokI.h⟩
def fs_ref24_StartCall (N : Nat) : FnS := { own := [], pure := false, fn := fun cs => match cs with
  | [c0, c1, c2, c3] => (Actor.decA c0).bind fun qc0 => (decS c1).bind fun qc1 => ((decI .i64) c2).bind fun qc2 => ((decL 1 (dec1 (decI .i64))) c3).bind fun qc3 => (ref24_StartCall N qc0 qc1 qc2 qc3).map fun r => .tup [.agg (Actor.row r.1), .val (.int .i64 r.2)]
  | _ => none }
attribute [go_sem] fs_ref24_StartCall
theorem fs_ref24_StartCall_ok (N : Nat) : FSOk Try.prog 38 (fs_ref24_StartCall N) := by
  refine ⟨fun cs r h => ?_, fun h => by cases h⟩
  simp only [fs_ref24_StartCall] at h
  split at h
  · simp only [Option.bind_eq_some_iff, Option.map_eq_some_iff] at h
    obtain ⟨q0, h0, q1, h1, q2, h2, q3, h3, r', hr, rfl⟩ := h
    exact ((w_ref24_StartCall N q0 q1 q2 q3 r' hr).args (LeL.cons (Actor.decA_le h0) (LeL.cons (decS_le h1) (LeL.cons (decI_le h2) (LeL.cons (decL_le (decI1_le .i64) h3) (LeL.nil))))))
  · cases h


noncomputable def G_ref24_Answer (N d f : Nat) : Option FnS := glist [(9, 16, fs_ref24_Valid N), (13, 20, fs_ref24_ValidReply N), (19, 52, fs_ref24_top N), (26, 53, fs_ref24_running N), (37, 22, fs_ref24_SameID N), (54, 79, fs_ref24_with N)] d f
attribute [go_sem] G_ref24_Answer
set_option maxHeartbeats 40000000 in
theorem w_ref24_Answer (N : Nat) (a0 : Actor) (a1 : Reply) (r : Actor × Int) (h : ref24_Answer N a0 a1 = some r) : Con Try.prog 40 [] false [.agg (Actor.row a0), .agg (Reply.row a1)] (.tup [.agg (Actor.row r.1), .val (.int .i64 r.2)]) := by
  refine fun_ok4 (G := (G_ref24_Answer N)) Try.func40 rfl (by decide) (by kernel_rfl) (gc 9 (fs_ref24_Valid_ok N) (gc 13 (fs_ref24_ValidReply_ok N) (gc 19 (fs_ref24_top_ok N) (gc 26 (fs_ref24_running_ok N) (gc 37 (fs_ref24_SameID_ok N) (gc 54 (fs_ref24_with_ok N) gn)))))) [] mix (Nat.le_of_ble_eq_true rfl) ?_
  simp only [Try.f40]
  unfold ref24_Answer at h
  refine Wk_seq (Wk_regionZ fun Z hZ => ?_)
  simp only [go_sem, seval]
  refine hZ _ (pp ?_)
  refine Wk_seq ?_
  apply Wk_join1 (fun (c7 : Bool) => ⟨tab 57 (updT (updT (updT (updT deadT 2 (.pref 2 [] 0 0)) 3 (.pref 3 [] 0 0)) 4 (.pref 4 [] 0 0)) 15 (.val (.bool c7))), (upd (upd (upd RZ 2 (.sl true none 4 (some 1) [Actor.row a0])) 3 (.sl true none 9 (some 1) [Reply.row a1])) 4 (.sl true none 4 (some 1) [[.val (.string (⟨#[]⟩)), .val (.string (⟨#[]⟩)), .val (.int .i64 0), .val (.slice none 0 0)]]))⟩)
  · intro hJ1
    obtain ⟨r8, hr2, h⟩ := Option.bind_eq_some_iff.1 h
    refine Wk_regionZ fun Z hZ => ?_
    simp only [go_sem, seval, hr2]
    refine RX_guard_nbool rfl (fun hc3 => ?_) (fun hc3 => ?_)
    · rw [if_neg (ne_true_of_eq_false hc3)] at h
      simp only [go_sem, seval, hr2, hc3]
      refine hZ _ (pp ?_)
      refine hJ1 _ true ?_ h
      refine weak_roots ?_ ?_ <;> repeat' first | exact xn | exact rn | refine xc ?_ ?_ | refine rc ?_ ?_ ?_ | rfl | simp only [go_sem, seval, Bool.or_self, List.length_set, Int.natCast_zero, Int.cast_ofNat_Int, hr2, hc3]
    rw [if_pos hc3] at h
    obtain ⟨r9, hr4, h⟩ := Option.bind_eq_some_iff.1 h
    simp only [go_sem, seval, hr2, hc3, hr4]
    refine hZ _ (pp ?_)
    refine hJ1 _ (!r9) ?_ h
    refine weak_roots ?_ ?_ <;> repeat' first | exact xn | exact rn | refine xc ?_ ?_ | refine rc ?_ ?_ ?_ | rfl | simp only [go_sem, seval, Bool.or_self, List.length_set, Int.natCast_zero, Int.cast_ofNat_Int, hr2, hc3, hr4]
  intro c7 h
  unfold ref24_Answer_J1 at h
  refine Wk_cond_bool rfl (fun hc5 => ?_) (fun hc5 => ?_)
  · rw [if_pos hc5] at h
    refine Wk_seq (Wk_regionZ fun Z hZ => ?_)
    simp only [go_sem, seval, hc5]
    refine hZ _ (pp ?_)
    refine Wk_ret (pp ?_)
    cases h
    simp only [go_sem, seval, hc5]
    exact ⟨_, rfl, RokI.h⟩
  rw [if_neg (ne_true_of_eq_false hc5)] at h
  refine Wk_skip (pp ?_)
  unfold ref24_Answer_J6 at h
  refine Wk_seq ?_
  obtain ⟨r10, hr6, h⟩ := Option.bind_eq_some_iff.1 h
  refine Wk_regionZ fun Z hZ => ?_
  simp only [go_sem, seval, hc5, hr6]
  refine hZ _ (pp ?_)
  refine Wk_seq ?_
  apply Wk_join1 (fun (c17 : Bool) => ⟨tab 57 (updT (updT (updT (updT (updT deadT 2 (.pref 2 [] 0 0)) 3 (.pref 3 [] 0 0)) 4 (.pref 4 [] 0 0)) 6 (.pref 6 [] 0 0)) 39 (.val (.bool c17))), (upd (upd (upd (upd RZ 2 (.sl true none 4 (some 1) [Actor.row a0])) 3 (.sl true none 9 (some 1) [Reply.row a1])) 4 (.sl true none 4 (some 1) [[.val (.string (⟨#[]⟩)), .val (.string (⟨#[]⟩)), .val (.int .i64 0), .val (.slice none 0 0)]])) 6 (.sl true none 30 (some 1) [Turn.row r10.1]))⟩)
  · intro hJ7
    refine Wk_regionZ fun Z hZ => ?_
    simp only [go_sem, seval, hc5, hr6]
    refine RX_guard_nbool rfl (fun hc8 => ?_) (fun hc8 => ?_)
    · rw [if_neg (ne_true_of_eq_false hc8)] at h
      simp only [go_sem, seval, hc5, hr6, hc8]
      refine hZ _ (pp ?_)
      refine hJ7 _ true ?_ h
      refine weak_roots ?_ ?_ <;> repeat' first | exact xn | exact rn | refine xc ?_ ?_ | refine rc ?_ ?_ ?_ | rfl | simp only [go_sem, seval, Bool.or_self, List.length_set, Int.natCast_zero, Int.cast_ofNat_Int, hc5, hr6, hc8]
    rw [if_pos hc8] at h
    obtain ⟨r18, hr9, h⟩ := Option.bind_eq_some_iff.1 h
    simp only [go_sem, seval, hc5, hr6, hc8, hr9]
    refine RX_guard_bool rfl (fun hc10 => ?_) (fun hc10 => ?_)
    · rw [if_pos hc10] at h
      simp only [go_sem, seval, hc5, hr6, hc8, hr9, hc10]
      refine hZ _ (pp ?_)
      refine hJ7 _ true ?_ h
      refine weak_roots ?_ ?_ <;> repeat' first | exact xn | exact rn | refine xc ?_ ?_ | refine rc ?_ ?_ ?_ | rfl | simp only [go_sem, seval, Bool.or_self, List.length_set, Int.natCast_zero, Int.cast_ofNat_Int, hc5, hr6, hc8, hr9, hc10]
    rw [if_neg (ne_true_of_eq_false hc10)] at h
    obtain ⟨r19, hr11, h⟩ := Option.bind_eq_some_iff.1 h
    simp only [go_sem, seval, hc5, hr6, hc8, hr9, hc10, hr11]
    refine hZ _ (pp ?_)
    refine hJ7 _ (!r19) ?_ h
    refine weak_roots ?_ ?_ <;> repeat' first | exact xn | exact rn | refine xc ?_ ?_ | refine rc ?_ ?_ ?_ | rfl | simp only [go_sem, seval, Bool.or_self, List.length_set, Int.natCast_zero, Int.cast_ofNat_Int, hc5, hr6, hc8, hr9, hc10, hr11]
  intro c17 h
  unfold ref24_Answer_J2 at h
  refine Wk_cond_bool rfl (fun hc12 => ?_) (fun hc12 => ?_)
  · rw [if_pos hc12] at h
    refine Wk_seq (Wk_regionZ fun Z hZ => ?_)
    simp only [go_sem, seval, hc5, hr6, hc12]
    refine hZ _ (pp ?_)
    refine Wk_ret (pp ?_)
    cases h
    simp only [go_sem, seval, hc5, hr6, hc12]
    exact ⟨_, rfl, RokI.h⟩
  rw [if_neg (ne_true_of_eq_false hc12)] at h
  refine Wk_skip (pp ?_)
  unfold ref24_Answer_J5 at h
  refine Wk_seq ?_
  apply Wk_join1 (fun (c22 : Bool) => ⟨tab 57 (updT (updT (updT (updT (updT deadT 2 (.pref 2 [] 0 0)) 3 (.pref 3 [] 0 0)) 4 (.pref 4 [] 0 0)) 6 (.pref 6 [] 0 0)) 47 (.val (.bool c22))), (upd (upd (upd (upd RZ 2 (.sl true none 4 (some 1) [Actor.row a0])) 3 (.sl true none 9 (some 1) [Reply.row a1])) 4 (.sl true none 4 (some 1) [[.val (.string (⟨#[]⟩)), .val (.string (⟨#[]⟩)), .val (.int .i64 0), .val (.slice none 0 0)]])) 6 (.sl true none 30 (some 1) [Turn.row r10.1]))⟩)
  · intro hJ13
    refine Wk_regionZ fun Z hZ => ?_
    simp only [go_sem, seval, hc5, hr6, hc12]
    refine RX_guard_nbool rfl (fun hc14 => ?_) (fun hc14 => ?_)
    · rw [if_neg (ne_true_of_eq_false hc14)] at h
      simp only [go_sem, seval, hc5, hr6, hc12, hc14]
      refine hZ _ (pp ?_)
      refine hJ13 _ true ?_ h
      refine weak_roots ?_ ?_ <;> repeat' first | exact xn | exact rn | refine xc ?_ ?_ | refine rc ?_ ?_ ?_ | rfl | simp only [go_sem, seval, Bool.or_self, List.length_set, Int.natCast_zero, Int.cast_ofNat_Int, hc5, hr6, hc12, hc14]
    rw [if_pos hc14] at h
    simp only [go_sem, seval, hc5, hr6, hc12, hc14]
    refine hZ _ (pp ?_)
    refine hJ13 _ r10.1.Done ?_ h
    refine weak_roots ?_ ?_ <;> repeat' first | exact xn | exact rn | refine xc ?_ ?_ | refine rc ?_ ?_ ?_ | rfl | simp only [go_sem, seval, Bool.or_self, List.length_set, Int.natCast_zero, Int.cast_ofNat_Int, hc5, hr6, hc12, hc14]
  intro c22 h
  unfold ref24_Answer_J3 at h
  refine Wk_cond_bool rfl (fun hc15 => ?_) (fun hc15 => ?_)
  · rw [if_pos hc15] at h
    refine Wk_seq (Wk_regionZ fun Z hZ => ?_)
    simp only [go_sem, seval, hc5, hr6, hc12, hc15]
    refine hZ _ (pp ?_)
    refine Wk_ret (pp ?_)
    cases h
    simp only [go_sem, seval, hc5, hr6, hc12, hc15]
    exact ⟨_, rfl, RokI.h⟩
  rw [if_neg (ne_true_of_eq_false hc15)] at h
  refine Wk_skip (pp ?_)
  unfold ref24_Answer_J4 at h
  refine Wk_seq (Wk_regionZ fun Z hZ => ?_)
  simp only [go_sem, seval, hc5, hr6, hc12, hc15]
  refine hZ _ (pp ?_)
  refine Wk_seq (Wk_regionZ fun Z hZ => ?_)
  simp only [go_sem, seval, hc5, hr6, hc12, hc15]
  refine hZ _ (pp ?_)
  refine Wk_seq ?_
  obtain ⟨r23, hr16, h⟩ := Option.bind_eq_some_iff.1 h
  refine Wk_regionZ fun Z hZ => ?_
  simp only [go_sem, seval, hc5, hr6, hc12, hc15, hr16]
  refine hZ _ (pp ?_)
  refine Wk_ret (pp ?_)
  cases h
  simp only [go_sem, seval, hc5, hr6, hc12, hc15, hr16]
  exact ⟨_, rfl, RokI.h⟩
def fs_ref24_Answer (N : Nat) : FnS := { own := [], pure := false, fn := fun cs => match cs with
  | [c0, c1] => (Actor.decA c0).bind fun qc0 => (Reply.decA c1).bind fun qc1 => (ref24_Answer N qc0 qc1).map fun r => .tup [.agg (Actor.row r.1), .val (.int .i64 r.2)]
  | _ => none }
attribute [go_sem] fs_ref24_Answer
theorem fs_ref24_Answer_ok (N : Nat) : FSOk Try.prog 40 (fs_ref24_Answer N) := by
  refine ⟨fun cs r h => ?_, fun h => by cases h⟩
  simp only [fs_ref24_Answer] at h
  split at h
  · simp only [Option.bind_eq_some_iff, Option.map_eq_some_iff] at h
    obtain ⟨q0, h0, q1, h1, r', hr, rfl⟩ := h
    exact ((w_ref24_Answer N q0 q1 r' hr).args (LeL.cons (Actor.decA_le h0) (LeL.cons (Reply.decA_le h1) (LeL.nil))))
  · cases h


noncomputable def G_ref24_Resume (N d f : Nat) : Option FnS := glist [(10, 16, fs_ref24_Valid N), (16, 52, fs_ref24_top N), (23, 53, fs_ref24_running N), (39, 79, fs_ref24_with N)] d f
attribute [go_sem] G_ref24_Resume
set_option maxHeartbeats 40000000 in
theorem w_ref24_Resume (N : Nat) (a0 : Actor) (r : Actor × Reply × Int) (h : ref24_Resume N a0 = some r) : Con Try.prog 42 [] false [.agg (Actor.row a0)] (.tup [.agg (Actor.row r.1), .agg (Reply.row r.2.1), .val (.int .i64 r.2.2)]) := by
  refine fun_ok4 (G := (G_ref24_Resume N)) Try.func42 rfl (by decide) (by kernel_rfl) (gc 10 (fs_ref24_Valid_ok N) (gc 16 (fs_ref24_top_ok N) (gc 23 (fs_ref24_running_ok N) (gc 39 (fs_ref24_with_ok N) gn)))) [] mix (Nat.le_of_ble_eq_true rfl) ?_
  simp only [Try.f42]
  unfold ref24_Resume at h
  refine Wk_seq (Wk_regionZ fun Z hZ => ?_)
  simp only [go_sem, seval]
  refine hZ _ (pp ?_)
  refine Wk_seq (Wk_seq ?_)
  obtain ⟨r1, hr1, h⟩ := Option.bind_eq_some_iff.1 h
  refine Wk_regionZ fun Z hZ => ?_
  simp only [go_sem, seval, hr1]
  refine hZ _ (pp ?_)
  refine Wk_cond_nbool rfl (fun hc2 => ?_) (fun hc2 => ?_)
  · rw [if_neg (ne_true_of_eq_false hc2)] at h
    refine Wk_seq (Wk_regionZ fun Z hZ => ?_)
    simp only [go_sem, seval, hr1, hc2]
    refine hZ _ (pp ?_)
    refine Wk_ret (pp ?_)
    cases h
    simp only [go_sem, seval, hr1, hc2]
    exact ⟨_, rfl, RokI.h⟩
  rw [if_pos hc2] at h
  refine Wk_skip (pp ?_)
  refine Wk_seq ?_
  obtain ⟨r2, hr3, h⟩ := Option.bind_eq_some_iff.1 h
  refine Wk_regionZ fun Z hZ => ?_
  simp only [go_sem, seval, hr1, hc2, hr3]
  refine hZ _ (pp ?_)
  refine Wk_seq ?_
  apply Wk_join1 (fun (c7 : Bool) => ⟨tab 50 (updT (updT (updT (updT (updT deadT 1 (.pref 1 [] 0 0)) 2 (.pref 2 [] 0 0)) 3 (.pref 3 [] 0 0)) 5 (.pref 5 [] 0 0)) 24 (.val (.bool c7))), (upd (upd (upd (upd RZ 1 (.sl true none 4 (some 1) [Actor.row a0])) 2 (.sl true none 4 (some 1) [[.val (.string (⟨#[]⟩)), .val (.string (⟨#[]⟩)), .val (.int .i64 0), .val (.slice none 0 0)]])) 3 (.sl true none 9 (some 1) [[.val (.string (⟨#[]⟩)), .val (.int .i64 0), .val (.slice none 0 0), .val (.int .i64 0), .val (.int .i64 0), .val (.int .i64 0), .val (.string (⟨#[]⟩)), .val (.slice none 0 0), .val (.slice none 0 0)]])) 5 (.sl true none 30 (some 1) [Turn.row r2.1]))⟩)
  · intro hJ4
    refine Wk_regionZ fun Z hZ => ?_
    simp only [go_sem, seval, hr1, hc2, hr3]
    refine RX_guard_nbool rfl (fun hc5 => ?_) (fun hc5 => ?_)
    · rw [if_neg (ne_true_of_eq_false hc5)] at h
      simp only [go_sem, seval, hr1, hc2, hr3, hc5]
      refine hZ _ (pp ?_)
      refine hJ4 _ true ?_ h
      refine weak_roots ?_ ?_ <;> repeat' first | exact xn | exact rn | refine xc ?_ ?_ | refine rc ?_ ?_ ?_ | rfl | simp only [go_sem, seval, Bool.or_self, List.length_set, Int.natCast_zero, Int.cast_ofNat_Int, hr1, hc2, hr3, hc5]
    rw [if_pos hc5] at h
    obtain ⟨r8, hr6, h⟩ := Option.bind_eq_some_iff.1 h
    simp only [go_sem, seval, hr1, hc2, hr3, hc5, hr6]
    refine hZ _ (pp ?_)
    refine hJ4 _ r8 ?_ h
    refine weak_roots ?_ ?_ <;> repeat' first | exact xn | exact rn | refine xc ?_ ?_ | refine rc ?_ ?_ ?_ | rfl | simp only [go_sem, seval, Bool.or_self, List.length_set, Int.natCast_zero, Int.cast_ofNat_Int, hr1, hc2, hr3, hc5, hr6]
  intro c7 h
  unfold ref24_Resume_J1 at h
  refine Wk_cond_bool rfl (fun hc7 => ?_) (fun hc7 => ?_)
  · rw [if_pos hc7] at h
    refine Wk_seq (Wk_regionZ fun Z hZ => ?_)
    simp only [go_sem, seval, hr1, hc2, hr3, hc7]
    refine hZ _ (pp ?_)
    refine Wk_ret (pp ?_)
    cases h
    simp only [go_sem, seval, hr1, hc2, hr3, hc7]
    exact ⟨_, rfl, RokI.h⟩
  rw [if_neg (ne_true_of_eq_false hc7)] at h
  refine Wk_skip (pp ?_)
  unfold ref24_Resume_J2 at h
  refine Wk_seq (Wk_seq (Wk_regionZ fun Z hZ => ?_))
  simp only [go_sem, seval, hr1, hc2, hr3, hc7]
  refine hZ _ (pp ?_)
  refine Wk_cond_nbool rfl (fun hc8 => ?_) (fun hc8 => ?_)
  · rw [if_neg (ne_true_of_eq_false hc8)] at h
    refine Wk_seq (Wk_regionZ fun Z hZ => ?_)
    simp only [go_sem, seval, hr1, hc2, hr3, hc7, hc8]
    refine hZ _ (pp ?_)
    refine Wk_ret (pp ?_)
    cases h
    simp only [go_sem, seval, hr1, hc2, hr3, hc7, hc8]
    exact ⟨_, rfl, RokI.h⟩
  rw [if_pos hc8] at h
  refine Wk_skip (pp ?_)
  refine Wk_seq ?_
  obtain ⟨r9, hr9, h⟩ := Option.bind_eq_some_iff.1 h
  refine Wk_regionZ fun Z hZ => ?_
  simp only [go_sem, seval, hr1, hc2, hr3, hc7, hc8, hr9]
  refine hZ _ (pp ?_)
  refine Wk_seq (Wk_seq (Wk_regionZ fun Z hZ => ?_))
  simp only [go_sem, seval, hr1, hc2, hr3, hc7, hc8, hr9]
  refine hZ _ (pp ?_)
  refine Wk_cond_ndec rfl (fun hc10 => ?_) (fun hc10 => ?_)
  · have hc10d := decide_eq_false hc10
    first | rw [if_neg hc10] at h | rw [if_neg (ne_true_of_eq_false hc10d)] at h
    refine Wk_seq (Wk_regionZ fun Z hZ => ?_)
    simp only [go_sem, seval, hr1, hc2, hr3, hc7, hc8, hr9, hc10d]
    refine hZ _ (pp ?_)
    refine Wk_ret (pp ?_)
    cases h
    simp only [go_sem, seval, hr1, hc2, hr3, hc7, hc8, hr9, hc10d]
    exact ⟨_, rfl, RokI.h⟩
  have hc10d := decide_eq_true hc10
  first | rw [if_pos hc10] at h | rw [if_pos hc10d] at h
  refine Wk_skip (pp ?_)
  refine Wk_seq (Wk_regionH fun Y hY => ?_)
  refine RX2_s rfl rfl fun Z hZ => ?_
  simp only [go_sem, seval, hr1, hc2, hr3, hc7, hc8, hr9, hc10d]
  repeat with_reducible refine and_bar (by kernel_rfl) ?_
  refine hZ _ ?_
  refine RX2_s rfl rfl fun Z hZ => ?_
  simp only [go_sem, seval, hr1, hc2, hr3, hc7, hc8, hr9, hc10d]
  repeat with_reducible refine and_bar (by kernel_rfl) ?_
  refine hZ _ ?_
  refine RX2_s rfl rfl fun Z hZ => ?_
  simp only [go_sem, seval, hr1, hc2, hr3, hc7, hc8, hr9, hc10d]
  repeat with_reducible refine and_bar (by kernel_rfl) ?_
  refine hZ _ ?_
  refine RX2_w fun Z hZ => ?_
  simp only [go_sem, seval, hr1, hc2, hr3, hc7, hc8, hr9, hc10d]
  repeat with_reducible refine and_bar (by kernel_rfl) ?_
  refine hZ _ ?_
  refine RX2_w fun Z hZ => ?_
  simp only [go_sem, seval, hr1, hc2, hr3, hc7, hc8, hr9, hc10d]
  repeat with_reducible refine and_bar (by kernel_rfl) ?_
  refine hZ _ ?_
  refine RX2_s rfl rfl fun Z hZ => ?_
  simp only [go_sem, seval, hr1, hc2, hr3, hc7, hc8, hr9, hc10d]
  repeat with_reducible refine and_bar (by kernel_rfl) ?_
  refine hZ _ ?_
  refine RX2_end (by kernel_rfl) (hY _ (pp ?_))
  refine Wk_ret (pp ?_)
  cases h
  simp only [go_sem, seval, hr1, hc2, hr3, hc7, hc8, hr9, hc10d]
  exact ⟨_, rfl, RokI.h⟩
def fs_ref24_Resume (N : Nat) : FnS := { own := [], pure := false, fn := fun cs => match cs with
  | [c0] => (Actor.decA c0).bind fun qc0 => (ref24_Resume N qc0).map fun r => .tup [.agg (Actor.row r.1), .agg (Reply.row r.2.1), .val (.int .i64 r.2.2)]
  | _ => none }
attribute [go_sem] fs_ref24_Resume
theorem fs_ref24_Resume_ok (N : Nat) : FSOk Try.prog 42 (fs_ref24_Resume N) := by
  refine ⟨fun cs r h => ?_, fun h => by cases h⟩
  simp only [fs_ref24_Resume] at h
  split at h
  · simp only [Option.bind_eq_some_iff, Option.map_eq_some_iff] at h
    obtain ⟨q0, h0, r', hr, rfl⟩ := h
    exact ((w_ref24_Resume N q0 r' hr).args (LeL.cons (Actor.decA_le h0) (LeL.nil)))
  · cases h


noncomputable def G_ref24_SameTurn (N d f : Nat) : Option FnS := glist [(9, 25, fs_ref24_SameRequest N), (22, 25, fs_ref24_SameRequest N), (43, 45, fs_ref24_SameReply N)] d f
attribute [go_sem] G_ref24_SameTurn
set_option maxHeartbeats 40000000 in
theorem w_ref24_SameTurn (N : Nat) (a0 : Turn) (a1 : Turn) (r : Bool) (h : ref24_SameTurn N a0 a1 = some r) : Con Try.prog 72 [] true [.agg (Turn.row a0), .agg (Turn.row a1)] (.val (.bool r)) := by
  refine fun_ok4 (G := (G_ref24_SameTurn N)) Try.func72 rfl (by decide) (by kernel_rfl) (gc 9 (fs_ref24_SameRequest_ok N) (gc 22 (fs_ref24_SameRequest_ok N) (gc 43 (fs_ref24_SameReply_ok N) gn))) [] mix (Nat.le_of_ble_eq_true rfl) ?_
  simp only [Try.f72]
  unfold ref24_SameTurn at h
  refine Wk_seq (Wk_regionZ fun Z hZ => ?_)
  simp only [go_sem, seval]
  refine hZ _ (pp ?_)
  refine Wk_seq ?_
  obtain ⟨r1, hr1, h⟩ := Option.bind_eq_some_iff.1 h
  refine Wk_regionZ fun Z hZ => ?_
  simp only [go_sem, seval, hr1]
  refine sw (RX_guard_bool rfl) (fun hc2 => ?_) (fun hc2 => ?_)
  · rw [if_neg (ne_true_of_eq_false hc2)] at h
    simp only [go_sem, seval, hr1, hc2]
    refine hZ _ (pp ?_)
    refine Wk_ret (pp ?_)
    cases h
    simp only [go_sem, seval, hr1, hc2]
    exact ⟨_, rfl, RokI.h, PureI.h⟩
  rw [if_pos hc2] at h
  simp only [go_sem, seval, hr1, hc2]
  refine sw (RX_guard_dec rfl) (fun hc3 => ?_) (fun hc3 => ?_)
  · have hc3d := decide_eq_false hc3
    first | rw [if_neg hc3] at h | rw [if_neg (ne_true_of_eq_false hc3d)] at h
    simp only [go_sem, seval, hr1, hc2, hc3d]
    refine hZ _ (pp ?_)
    refine Wk_ret (pp ?_)
    cases h
    simp only [go_sem, seval, hr1, hc2, hc3d]
    exact ⟨_, rfl, RokI.h, PureI.h⟩
  have hc3d := decide_eq_true hc3
  first | rw [if_pos hc3] at h | rw [if_pos hc3d] at h
  obtain ⟨r2, hr4, h⟩ := Option.bind_eq_some_iff.1 h
  simp only [go_sem, seval, hr1, hc2, hc3d, hr4]
  refine sw (RX_guard_bool rfl) (fun hc5 => ?_) (fun hc5 => ?_)
  · rw [if_neg (ne_true_of_eq_false hc5)] at h
    simp only [go_sem, seval, hr1, hc2, hc3d, hr4, hc5]
    refine hZ _ (pp ?_)
    refine Wk_ret (pp ?_)
    cases h
    simp only [go_sem, seval, hr1, hc2, hc3d, hr4, hc5]
    exact ⟨_, rfl, RokI.h, PureI.h⟩
  rw [if_pos hc5] at h
  simp only [go_sem, seval, hr1, hc2, hc3d, hr4, hc5]
  refine sw (RX_guard_dec rfl) (fun hc6 => ?_) (fun hc6 => ?_)
  · have hc6d := decide_eq_false hc6
    first | rw [if_neg hc6] at h | rw [if_neg (ne_true_of_eq_false hc6d)] at h
    simp only [go_sem, seval, hr1, hc2, hc3d, hr4, hc5, hc6d]
    refine hZ _ (pp ?_)
    refine Wk_ret (pp ?_)
    cases h
    simp only [go_sem, seval, hr1, hc2, hc3d, hr4, hc5, hc6d]
    exact ⟨_, rfl, RokI.h, PureI.h⟩
  have hc6d := decide_eq_true hc6
  first | rw [if_pos hc6] at h | rw [if_pos hc6d] at h
  simp only [go_sem, seval, hr1, hc2, hc3d, hr4, hc5, hc6d]
  refine RX_guard_dec rfl (fun hc7 => ?_) (fun hc7 => ?_)
  · have hc7d := decide_eq_true hc7
    first | rw [if_pos hc7] at h | rw [if_pos hc7d] at h
    obtain ⟨r3, hr8, h⟩ := Option.bind_eq_some_iff.1 h
    simp only [go_sem, seval, hr1, hc2, hc3d, hr4, hc5, hc6d, hc7d, hr8]
    refine hZ _ (pp ?_)
    refine Wk_ret (pp ?_)
    cases h
    simp only [go_sem, seval, hr1, hc2, hc3d, hr4, hc5, hc6d, hc7d, hr8]
    exact ⟨_, rfl, RokI.h, PureI.h⟩
  have hc7d := decide_eq_false hc7
  first | rw [if_neg hc7] at h | rw [if_neg (ne_true_of_eq_false hc7d)] at h
  simp only [go_sem, seval, hr1, hc2, hc3d, hr4, hc5, hc6d, hc7d]
  refine hZ _ (pp ?_)
  refine Wk_ret (pp ?_)
  cases h
  simp only [go_sem, seval, hr1, hc2, hc3d, hr4, hc5, hc6d, hc7d]
  exact ⟨_, rfl, RokI.h, PureI.h⟩
def fs_ref24_SameTurn (N : Nat) : FnS := { own := [], pure := true, fn := fun cs => match cs with
  | [c0, c1] => (Turn.decA c0).bind fun qc0 => (Turn.decA c1).bind fun qc1 => (ref24_SameTurn N qc0 qc1).map fun r => .val (.bool r)
  | _ => none }
attribute [go_sem] fs_ref24_SameTurn
theorem fs_ref24_SameTurn_ok (N : Nat) : FSOk Try.prog 72 (fs_ref24_SameTurn N) := by
  refine ⟨fun cs r h => ?_, fun h => by cases h⟩
  simp only [fs_ref24_SameTurn] at h
  split at h
  · simp only [Option.bind_eq_some_iff, Option.map_eq_some_iff] at h
    obtain ⟨q0, h0, q1, h1, r', hr, rfl⟩ := h
    exact ((w_ref24_SameTurn N q0 q1 r' hr).args (LeL.cons (Turn.decA_le h0) (LeL.cons (Turn.decA_le h1) (LeL.nil))))
  · cases h


noncomputable def G_ref24_Same (N d f : Nat) : Option FnS := glist [(44, 72, fs_ref24_SameTurn N)] d f
attribute [go_sem] G_ref24_Same
set_option maxHeartbeats 40000000 in
theorem w_ref24_Same (N : Nat) (a0 : Actor) (a1 : Actor) (r : Bool) (h : ref24_Same N a0 a1 = some r) : Con Try.prog 26 [] true [.agg (Actor.row a0), .agg (Actor.row a1)] (.val (.bool r)) := by
  refine fun_ok4 (G := (G_ref24_Same N)) Try.func26 rfl (by decide) (by kernel_rfl) (gc 44 (fs_ref24_SameTurn_ok N) gn) [] mix (Nat.le_of_ble_eq_true rfl) ?_
  simp only [Try.f26]
  unfold ref24_Same at h
  refine Wk_seq (Wk_regionZ fun Z hZ => ?_)
  simp only [go_sem, seval]
  refine hZ _ (pp ?_)
  refine Wk_seq ?_
  apply Wk_join1 (fun (c3 : Bool) => ⟨tab 46 (updT (updT (updT deadT 2 (.pref 2 [] 0 0)) 3 (.pref 3 [] 0 0)) 26 (.val (.bool c3))), (upd (upd RZ 2 (.sl true none 4 (some 1) [Actor.row a0])) 3 (.sl true none 4 (some 1) [Actor.row a1]))⟩)
  · intro hJ1
    refine Wk_regionZ fun Z hZ => ?_
    simp only [go_sem, seval]
    refine RX_guard_nbool rfl (fun hc2 => ?_) (fun hc2 => ?_)
    · rw [if_neg (ne_true_of_eq_false hc2)] at h
      simp only [go_sem, seval, hc2]
      refine hZ _ (pp ?_)
      refine hJ1 _ true ?_ h
      refine weak_roots ?_ ?_ <;> repeat' first | exact xn | exact rn | refine xc ?_ ?_ | refine rc ?_ ?_ ?_ | rfl | simp only [go_sem, seval, Bool.or_self, List.length_set, Int.natCast_zero, Int.cast_ofNat_Int, hc2]
    rw [if_pos hc2] at h
    simp only [go_sem, seval, hc2]
    refine RX_guard_ndec rfl (fun hc3 => ?_) (fun hc3 => ?_)
    · have hc3d := decide_eq_false hc3
      first | rw [if_neg hc3] at h | rw [if_neg (ne_true_of_eq_false hc3d)] at h
      simp only [go_sem, seval, hc2, hc3d]
      refine hZ _ (pp ?_)
      refine hJ1 _ true ?_ h
      refine weak_roots ?_ ?_ <;> repeat' first | exact xn | exact rn | refine xc ?_ ?_ | refine rc ?_ ?_ ?_ | rfl | simp only [go_sem, seval, Bool.or_self, List.length_set, Int.natCast_zero, Int.cast_ofNat_Int, hc2, hc3d]
    have hc3d := decide_eq_true hc3
    first | rw [if_pos hc3] at h | rw [if_pos hc3d] at h
    simp only [go_sem, seval, hc2, hc3d]
    refine hZ _ (pp ?_)
    refine hJ1 _ (!decide (((a0.Stack.length : Nat) : Int) = ((a1.Stack.length : Nat) : Int))) ?_ h
    refine weak_roots ?_ ?_ <;> repeat' first | exact xn | exact rn | refine xc ?_ ?_ | refine rc ?_ ?_ ?_ | rfl | simp only [go_sem, seval, Bool.or_self, List.length_set, Int.natCast_zero, Int.cast_ofNat_Int, hc2, hc3d]
  intro c3 h
  unfold ref24_Same_J1 at h
  refine Wk_cond_bool rfl (fun hc4 => ?_) (fun hc4 => ?_)
  · rw [if_pos hc4] at h
    refine Wk_seq (Wk_regionZ fun Z hZ => ?_)
    simp only [go_sem, seval, hc4]
    refine hZ _ (pp ?_)
    refine Wk_ret (pp ?_)
    cases h
    simp only [go_sem, seval, hc4]
    exact ⟨_, rfl, RokI.h, PureI.h⟩
  rw [if_neg (ne_true_of_eq_false hc4)] at h
  refine Wk_skip (pp ?_)
  unfold ref24_Same_J2 at h
  refine Wk_seq (Wk_seq (Wk_regionZ fun Z hZ => ?_))
  simp only [go_sem, seval, hc4]
  refine hZ _ (pp ?_)
  refine Wk_block (Wk_real fun hreal6 => ?_)
  have hl5 := hreal6.cell 2 3 (by simp only [go_sem, seval, Bool.or_self, List.length_set, Int.natCast_zero, Int.cast_ofNat_Int, hc4]; rfl) rfl
  rw [List.length_map] at hl5
  refine Wk_range (fun (v5 : Nat) (b : Unit) => ⟨tab 46 (updT (updT (updT deadT 2 (.pref 2 [] 0 0)) 3 (.pref 3 [] 0 0)) 5 (.val (.int .i64 ((v5 : Nat) : Int)))), (upd (upd RZ 2 (.sl true none 4 (some 1) [Actor.row a0])) 3 (.sl true none 4 (some 1) [Actor.row a1]))⟩) () h ?_ ?_
  · refine weak_roots ?_ ?_ <;> repeat' first | exact xn | exact rn | refine xc ?_ ?_ | refine rc ?_ ?_ ?_ | rfl | simp only [go_sem, seval, Bool.or_self, List.length_set, Int.natCast_zero, Int.cast_ofNat_Int, hc4]
  rintro v5 ⟨⟩ hi7 h -
  rcases (drop_cases a0.Stack v5 hi7).symm with ⟨hi7', _, hd10⟩ | ⟨x8, hi7', hx8, hd10⟩
  · rw [hd10] at h
    simp only [ref24_Same_L1] at h
    refine Wk_seq (Wk_seq (Wk_regionZ fun Z hZ => ?_))
    simp only [go_sem, seval, hc4, hi7']
    refine hZ _ (pp ?_)
    try simp only [Int.ofNat_lt, hi7', if_true, if_false] at h
    refine Wk_cond_f rfl (Wk_exit (pp ?_))
    refine Wk_seq (Wk_regionZ fun Z hZ => ?_)
    simp only [go_sem, seval, hc4, hi7']
    refine hZ _ (pp ?_)
    refine Wk_ret (pp ?_)
    cases h
    simp only [go_sem, seval, hc4, hi7']
    exact ⟨_, rfl, RokI.h, PureI.h⟩
  rw [hd10] at h
  simp only [ref24_Same_L1] at h
  have hw9 := wrap_succ hi7' hl5
  refine Wk_seq (Wk_seq (Wk_regionZ fun Z hZ => ?_))
  simp only [go_sem, seval, hc4, hx8, hi7', hw9]
  refine hZ _ (pp ?_)
  try simp only [Int.ofNat_lt, hi7', if_true, if_false] at h
  refine Wk_cond_t rfl (Wk_skip (pp ?_))
  refine Wk_seq (Wk_block (Wk_seq ?_))
  try rw [gx_nat hx8] at h
  obtain ⟨x4, hb11, hx12, h⟩ := gx_some h
  try simp only [Int.toNat_natCast, Int.reduceToNat, Int.toNat_zero] at hx12
  try simp only [Int.ofNat_lt, Int.natCast_nonneg, true_and] at hb11
  obtain ⟨r5, hr13, h⟩ := Option.bind_eq_some_iff.1 h
  refine Wk_regionD fun Z hZ => ?_
  simp only [go_sem, seval, hc4, hx8, hi7', hw9, hb11, hx12, hr13]
  repeat with_reducible refine and_bar (by kernel_rfl) ?_
  refine hZ _ (by kernel_rfl) (pp ?_)
  refine Wk_cond_nbool rfl (fun hc14 => ?_) (fun hc14 => ?_)
  · rw [if_neg (ne_true_of_eq_false hc14)] at h
    refine Wk_seq (Wk_regionZ fun Z hZ => ?_)
    simp only [go_sem, seval, hc4, hx8, hi7', hw9, hb11, hx12, hr13, hc14]
    refine hZ _ (pp ?_)
    refine Wk_ret (pp ?_)
    cases h
    simp only [go_sem, seval, hc4, hx8, hi7', hw9, hb11, hx12, hr13, hc14]
    exact ⟨_, rfl, RokI.h, PureI.h⟩
  rw [if_pos hc14] at h
  refine Wk_skip (pp ?_)
  refine Wk_regionZ fun Z hZ => ?_
  simp only [go_sem, seval, hc4, hx8, hi7', hw9, hb11, hx12, hr13, hc14]
  refine hZ _ (pp ?_)
  first | refine ⟨(), ?_, h⟩ | refine ⟨hi7', (), ?_, h⟩
  refine weak_roots ?_ ?_ <;> repeat' first | exact xn | exact rn | refine xc ?_ ?_ | refine rc ?_ ?_ ?_ | rfl | simp only [go_sem, seval, Bool.or_self, List.length_set, Int.natCast_zero, Int.cast_ofNat_Int, hc4, hx8, hi7', hw9, hb11, hx12, hr13, hc14]
def fs_ref24_Same (N : Nat) : FnS := { own := [], pure := true, fn := fun cs => match cs with
  | [c0, c1] => (Actor.decA c0).bind fun qc0 => (Actor.decA c1).bind fun qc1 => (ref24_Same N qc0 qc1).map fun r => .val (.bool r)
  | _ => none }
attribute [go_sem] fs_ref24_Same
theorem fs_ref24_Same_ok (N : Nat) : FSOk Try.prog 26 (fs_ref24_Same N) := by
  refine ⟨fun cs r h => ?_, fun h => by cases h⟩
  simp only [fs_ref24_Same] at h
  split at h
  · simp only [Option.bind_eq_some_iff, Option.map_eq_some_iff] at h
    obtain ⟨q0, h0, q1, h1, r', hr, rfl⟩ := h
    exact ((w_ref24_Same N q0 q1 r' hr).args (LeL.cons (Actor.decA_le h0) (LeL.cons (Actor.decA_le h1) (LeL.nil))))
  · cases h


noncomputable def G_law24_TurnsCalls (N d f : Nat) : Option FnS := glist [(41, 9, fs_law24_awake N), (44, 10, fs_law24_Small N), (50, 10, fs_law24_Small N), (58, 11, fs_law24_request N), (73, 12, fs_law24_reply N), (81, 35, fs_turns_Suspend N), (89, 36, fs_ref24_Suspend N), (97, 37, fs_turns_StartCall N), (105, 38, fs_ref24_StartCall N), (111, 39, fs_turns_Answer N), (117, 40, fs_ref24_Answer N), (122, 41, fs_turns_Resume N), (128, 42, fs_ref24_Resume N), (139, 43, fs_turns_Nested N), (149, 44, fs_ref24_Nested N), (154, 26, fs_ref24_Same N), (163, 26, fs_ref24_Same N), (173, 26, fs_ref24_Same N), (183, 26, fs_ref24_Same N), (188, 45, fs_ref24_SameReply N), (198, 25, fs_ref24_SameRequest N)] d f
attribute [go_sem] G_law24_TurnsCalls
set_option maxHeartbeats 40000000 in
theorem w_law24_TurnsCalls (N : Nat) (a0 : Actor) (a1 : Turn) (a2 : Ref) (a3 : ByteArray) (a4 : (List Value)) (a5 : ByteArray) (a6 : Int) (a7 : (List Int)) (a8 : Reply) (r : Bool) (h : law24_TurnsCalls N a0 a1 a2 a3 a4 a5 a6 a7 a8 = some r) : Con Try.prog 5 [] true [.agg (Actor.row a0), .agg (Turn.row a1), .agg [.val (.string a2.Type_), .val (.string a2.Key)], .val (.string a3), .sl false none 5 none (a4.map Value.row), .val (.string a5), .val (.int .i64 a6), .sl false none 1 none (a7.map (rowI .i64)), .agg (Reply.row a8)] (.val (.bool r)) := by
  refine fun_ok4 (G := (G_law24_TurnsCalls N)) Try.func5 rfl (by decide) (by kernel_rfl) (gc 41 (fs_law24_awake_ok N) (gc 44 (fs_law24_Small_ok N) (gc 50 (fs_law24_Small_ok N) (gc 58 (fs_law24_request_ok N) (gc 73 (fs_law24_reply_ok N) (gc 81 (fs_turns_Suspend_ok N) (gc 89 (fs_ref24_Suspend_ok N) (gc 97 (fs_turns_StartCall_ok N) (gc 105 (fs_ref24_StartCall_ok N) (gc 111 (fs_turns_Answer_ok N) (gc 117 (fs_ref24_Answer_ok N) (gc 122 (fs_turns_Resume_ok N) (gc 128 (fs_ref24_Resume_ok N) (gc 139 (fs_turns_Nested_ok N) (gc 149 (fs_ref24_Nested_ok N) (gc 154 (fs_ref24_Same_ok N) (gc 163 (fs_ref24_Same_ok N) (gc 173 (fs_ref24_Same_ok N) (gc 183 (fs_ref24_Same_ok N) (gc 188 (fs_ref24_SameReply_ok N) (gc 198 (fs_ref24_SameRequest_ok N) gn))))))))))))))))))))) [] mix (Nat.le_of_ble_eq_true rfl) ?_
  simp only [Try.f5]
  unfold law24_TurnsCalls at h
  refine Wk_seq (Wk_regionZ fun Z hZ => ?_)
  simp only [go_sem, seval]
  refine hZ _ (pp ?_)
  refine Wk_seq (Wk_seq ?_)
  obtain ⟨r1, hr1, h⟩ := Option.bind_eq_some_iff.1 h
  refine Wk_regionZ fun Z hZ => ?_
  simp only [go_sem, seval, hr1]
  refine hZ _ (pp ?_)
  refine Wk_cond_nbool rfl (fun hc2 => ?_) (fun hc2 => ?_)
  · rw [if_neg (ne_true_of_eq_false hc2)] at h
    refine Wk_seq (Wk_regionZ fun Z hZ => ?_)
    simp only [go_sem, seval, hr1, hc2]
    refine hZ _ (pp ?_)
    refine Wk_ret (pp ?_)
    cases h
    simp only [go_sem, seval, hr1, hc2]
    exact ⟨_, rfl, RokI.h, PureI.h⟩
  rw [if_pos hc2] at h
  refine Wk_skip (pp ?_)
  refine Wk_seq ?_
  apply Wk_join1 (fun (c12 : Bool) => ⟨tab 205 (updT (updT (updT (updT (updT (updT (updT (updT (updT (updT deadT 3 (.val (.string a3))) 4 (.sl false none 5 none (a4.map Value.row))) 5 (.val (.string a5))) 6 (.val (.int .i64 a6))) 7 (.sl false none 1 none (a7.map (rowI .i64)))) 9 (.pref 9 [] 0 0)) 10 (.pref 10 [] 0 0)) 11 (.pref 11 [] 0 0)) 17 (.pref 17 [] 0 0)) 75 (.val (.bool c12))), (upd (upd (upd (upd RZ 9 (.sl true none 4 (some 1) [Actor.row a0])) 10 (.sl true none 30 (some 1) [Turn.row a1])) 11 (.sl true none 2 (some 1) [[.val (.string a2.Type_), .val (.string a2.Key)]])) 17 (.sl true none 9 (some 1) [Reply.row a8]))⟩)
  · intro hJ3
    obtain ⟨r13, hr4, h⟩ := Option.bind_eq_some_iff.1 h
    refine Wk_regionZ fun Z hZ => ?_
    simp only [go_sem, seval, hr1, hc2, hr4]
    refine RX_guard_nbool rfl (fun hc5 => ?_) (fun hc5 => ?_)
    · rw [if_neg (ne_true_of_eq_false hc5)] at h
      simp only [go_sem, seval, hr1, hc2, hr4, hc5]
      refine hZ _ (pp ?_)
      refine hJ3 _ true ?_ h
      refine weak_roots ?_ ?_ <;> repeat' first | exact xn | exact rn | refine xc ?_ ?_ | refine rc ?_ ?_ ?_ | rfl | simp only [go_sem, seval, Bool.or_self, List.length_set, Int.natCast_zero, Int.cast_ofNat_Int, hr1, hc2, hr4, hc5]
    rw [if_pos hc5] at h
    obtain ⟨r14, hr6, h⟩ := Option.bind_eq_some_iff.1 h
    simp only [go_sem, seval, hr1, hc2, hr4, hc5, hr6]
    refine RX_guard_nbool rfl (fun hc7 => ?_) (fun hc7 => ?_)
    · rw [if_neg (ne_true_of_eq_false hc7)] at h
      simp only [go_sem, seval, hr1, hc2, hr4, hc5, hr6, hc7]
      refine hZ _ (pp ?_)
      refine hJ3 _ true ?_ h
      refine weak_roots ?_ ?_ <;> repeat' first | exact xn | exact rn | refine xc ?_ ?_ | refine rc ?_ ?_ ?_ | rfl | simp only [go_sem, seval, Bool.or_self, List.length_set, Int.natCast_zero, Int.cast_ofNat_Int, hr1, hc2, hr4, hc5, hr6, hc7]
    rw [if_pos hc7] at h
    obtain ⟨r15, hr8, h⟩ := Option.bind_eq_some_iff.1 h
    simp only [go_sem, seval, hr1, hc2, hr4, hc5, hr6, hc7, hr8]
    refine RX_guard_nbool rfl (fun hc9 => ?_) (fun hc9 => ?_)
    · rw [if_neg (ne_true_of_eq_false hc9)] at h
      simp only [go_sem, seval, hr1, hc2, hr4, hc5, hr6, hc7, hr8, hc9]
      refine hZ _ (pp ?_)
      refine hJ3 _ true ?_ h
      refine weak_roots ?_ ?_ <;> repeat' first | exact xn | exact rn | refine xc ?_ ?_ | refine rc ?_ ?_ ?_ | rfl | simp only [go_sem, seval, Bool.or_self, List.length_set, Int.natCast_zero, Int.cast_ofNat_Int, hr1, hc2, hr4, hc5, hr6, hc7, hr8, hc9]
    rw [if_pos hc9] at h
    simp only [go_sem, seval, hr1, hc2, hr4, hc5, hr6, hc7, hr8, hc9]
    refine RX_guard_dec rfl (fun hc10 => ?_) (fun hc10 => ?_)
    · have hc10d := decide_eq_true hc10
      first | rw [if_pos hc10] at h | rw [if_pos hc10d] at h
      simp only [go_sem, seval, hr1, hc2, hr4, hc5, hr6, hc7, hr8, hc9, hc10d]
      refine hZ _ (pp ?_)
      refine hJ3 _ true ?_ h
      refine weak_roots ?_ ?_ <;> repeat' first | exact xn | exact rn | refine xc ?_ ?_ | refine rc ?_ ?_ ?_ | rfl | simp only [go_sem, seval, Bool.or_self, List.length_set, Int.natCast_zero, Int.cast_ofNat_Int, hr1, hc2, hr4, hc5, hr6, hc7, hr8, hc9, hc10d]
    have hc10d := decide_eq_false hc10
    first | rw [if_neg hc10] at h | rw [if_neg (ne_true_of_eq_false hc10d)] at h
    simp only [go_sem, seval, hr1, hc2, hr4, hc5, hr6, hc7, hr8, hc9, hc10d]
    refine RX_guard_dec rfl (fun hc11 => ?_) (fun hc11 => ?_)
    · have hc11d := decide_eq_true hc11
      first | rw [if_pos hc11] at h | rw [if_pos hc11d] at h
      simp only [go_sem, seval, hr1, hc2, hr4, hc5, hr6, hc7, hr8, hc9, hc10d, hc11d]
      refine hZ _ (pp ?_)
      refine hJ3 _ true ?_ h
      refine weak_roots ?_ ?_ <;> repeat' first | exact xn | exact rn | refine xc ?_ ?_ | refine rc ?_ ?_ ?_ | rfl | simp only [go_sem, seval, Bool.or_self, List.length_set, Int.natCast_zero, Int.cast_ofNat_Int, hr1, hc2, hr4, hc5, hr6, hc7, hr8, hc9, hc10d, hc11d]
    have hc11d := decide_eq_false hc11
    first | rw [if_neg hc11] at h | rw [if_neg (ne_true_of_eq_false hc11d)] at h
    obtain ⟨r16, hr12, h⟩ := Option.bind_eq_some_iff.1 h
    simp only [go_sem, seval, hr1, hc2, hr4, hc5, hr6, hc7, hr8, hc9, hc10d, hc11d, hr12]
    refine hZ _ (pp ?_)
    refine hJ3 _ (!r16) ?_ h
    refine weak_roots ?_ ?_ <;> repeat' first | exact xn | exact rn | refine xc ?_ ?_ | refine rc ?_ ?_ ?_ | rfl | simp only [go_sem, seval, Bool.or_self, List.length_set, Int.natCast_zero, Int.cast_ofNat_Int, hr1, hc2, hr4, hc5, hr6, hc7, hr8, hc9, hc10d, hc11d, hr12]
  intro c12 h
  unfold law24_TurnsCalls_J1 at h
  refine Wk_cond_bool rfl (fun hc13 => ?_) (fun hc13 => ?_)
  · rw [if_pos hc13] at h
    refine Wk_seq (Wk_regionZ fun Z hZ => ?_)
    simp only [go_sem, seval, hr1, hc2, hc13]
    refine hZ _ (pp ?_)
    refine Wk_ret (pp ?_)
    cases h
    simp only [go_sem, seval, hr1, hc2, hc13]
    exact ⟨_, rfl, RokI.h, PureI.h⟩
  rw [if_neg (ne_true_of_eq_false hc13)] at h
  refine Wk_skip (pp ?_)
  unfold law24_TurnsCalls_J2 at h
  refine Wk_seq ?_
  obtain ⟨r17, hr14, h⟩ := Option.bind_eq_some_iff.1 h
  refine Wk_regionZ fun Z hZ => ?_
  simp only [go_sem, seval, hr1, hc2, hc13, hr14]
  refine hZ _ (pp ?_)
  refine Wk_seq ?_
  obtain ⟨r18, hr15, h⟩ := Option.bind_eq_some_iff.1 h
  refine Wk_regionZ fun Z hZ => ?_
  simp only [go_sem, seval, hr1, hc2, hc13, hr14, hr15]
  refine hZ _ (pp ?_)
  refine Wk_seq ?_
  obtain ⟨r19, hr16, h⟩ := Option.bind_eq_some_iff.1 h
  refine Wk_regionZ fun Z hZ => ?_
  simp only [go_sem, seval, hr1, hc2, hc13, hr14, hr15, hr16]
  refine hZ _ (pp ?_)
  refine Wk_seq ?_
  obtain ⟨r20, hr17, h⟩ := Option.bind_eq_some_iff.1 h
  refine Wk_regionZ fun Z hZ => ?_
  simp only [go_sem, seval, hr1, hc2, hc13, hr14, hr15, hr16, hr17]
  refine hZ _ (pp ?_)
  refine Wk_seq ?_
  obtain ⟨r21, hr18, h⟩ := Option.bind_eq_some_iff.1 h
  refine Wk_regionZ fun Z hZ => ?_
  simp only [go_sem, seval, hr1, hc2, hc13, hr14, hr15, hr16, hr17, hr18]
  refine hZ _ (pp ?_)
  refine Wk_seq ?_
  obtain ⟨r22, hr19, h⟩ := Option.bind_eq_some_iff.1 h
  refine Wk_regionZ fun Z hZ => ?_
  simp only [go_sem, seval, hr1, hc2, hc13, hr14, hr15, hr16, hr17, hr18, hr19]
  refine hZ _ (pp ?_)
  refine Wk_seq ?_
  obtain ⟨r23, hr20, h⟩ := Option.bind_eq_some_iff.1 h
  refine Wk_regionZ fun Z hZ => ?_
  simp only [go_sem, seval, hr1, hc2, hc13, hr14, hr15, hr16, hr17, hr18, hr19, hr20]
  refine hZ _ (pp ?_)
  refine Wk_seq ?_
  obtain ⟨r24, hr21, h⟩ := Option.bind_eq_some_iff.1 h
  refine Wk_regionZ fun Z hZ => ?_
  simp only [go_sem, seval, hr1, hc2, hc13, hr14, hr15, hr16, hr17, hr18, hr19, hr20, hr21]
  refine hZ _ (pp ?_)
  refine Wk_seq ?_
  obtain ⟨r25, hr22, h⟩ := Option.bind_eq_some_iff.1 h
  refine Wk_regionZ fun Z hZ => ?_
  simp only [go_sem, seval, hr1, hc2, hc13, hr14, hr15, hr16, hr17, hr18, hr19, hr20, hr21, hr22]
  refine hZ _ (pp ?_)
  refine Wk_seq ?_
  obtain ⟨r26, hr23, h⟩ := Option.bind_eq_some_iff.1 h
  refine Wk_regionZ fun Z hZ => ?_
  simp only [go_sem, seval, hr1, hc2, hc13, hr14, hr15, hr16, hr17, hr18, hr19, hr20, hr21, hr22, hr23]
  refine hZ _ (pp ?_)
  refine Wk_seq ?_
  obtain ⟨r27, hr24, h⟩ := Option.bind_eq_some_iff.1 h
  refine Wk_regionZ fun Z hZ => ?_
  simp only [go_sem, seval, hr1, hc2, hc13, hr14, hr15, hr16, hr17, hr18, hr19, hr20, hr21, hr22, hr23, hr24]
  refine sw (RX_guard_bool rfl) (fun hc25 => ?_) (fun hc25 => ?_)
  · rw [if_neg (ne_true_of_eq_false hc25)] at h
    simp only [go_sem, seval, hr1, hc2, hc13, hr14, hr15, hr16, hr17, hr18, hr19, hr20, hr21, hr22, hr23, hr24, hc25]
    refine hZ _ (pp ?_)
    refine Wk_ret (pp ?_)
    cases h
    simp only [go_sem, seval, hr1, hc2, hc13, hr14, hr15, hr16, hr17, hr18, hr19, hr20, hr21, hr22, hr23, hr24, hc25]
    exact ⟨_, rfl, RokI.h, PureI.h⟩
  rw [if_pos hc25] at h
  simp only [go_sem, seval, hr1, hc2, hc13, hr14, hr15, hr16, hr17, hr18, hr19, hr20, hr21, hr22, hr23, hr24, hc25]
  refine sw (RX_guard_dec rfl) (fun hc26 => ?_) (fun hc26 => ?_)
  · have hc26d := decide_eq_false hc26
    first | rw [if_neg hc26] at h | rw [if_neg (ne_true_of_eq_false hc26d)] at h
    simp only [go_sem, seval, hr1, hc2, hc13, hr14, hr15, hr16, hr17, hr18, hr19, hr20, hr21, hr22, hr23, hr24, hc25, hc26d]
    refine hZ _ (pp ?_)
    refine Wk_ret (pp ?_)
    cases h
    simp only [go_sem, seval, hr1, hc2, hc13, hr14, hr15, hr16, hr17, hr18, hr19, hr20, hr21, hr22, hr23, hr24, hc25, hc26d]
    exact ⟨_, rfl, RokI.h, PureI.h⟩
  have hc26d := decide_eq_true hc26
  first | rw [if_pos hc26] at h | rw [if_pos hc26d] at h
  obtain ⟨r28, hr27, h⟩ := Option.bind_eq_some_iff.1 h
  simp only [go_sem, seval, hr1, hc2, hc13, hr14, hr15, hr16, hr17, hr18, hr19, hr20, hr21, hr22, hr23, hr24, hc25, hc26d, hr27]
  refine sw (RX_guard_bool rfl) (fun hc28 => ?_) (fun hc28 => ?_)
  · rw [if_neg (ne_true_of_eq_false hc28)] at h
    simp only [go_sem, seval, hr1, hc2, hc13, hr14, hr15, hr16, hr17, hr18, hr19, hr20, hr21, hr22, hr23, hr24, hc25, hc26d, hr27, hc28]
    refine hZ _ (pp ?_)
    refine Wk_ret (pp ?_)
    cases h
    simp only [go_sem, seval, hr1, hc2, hc13, hr14, hr15, hr16, hr17, hr18, hr19, hr20, hr21, hr22, hr23, hr24, hc25, hc26d, hr27, hc28]
    exact ⟨_, rfl, RokI.h, PureI.h⟩
  rw [if_pos hc28] at h
  simp only [go_sem, seval, hr1, hc2, hc13, hr14, hr15, hr16, hr17, hr18, hr19, hr20, hr21, hr22, hr23, hr24, hc25, hc26d, hr27, hc28]
  refine sw (RX_guard_dec rfl) (fun hc29 => ?_) (fun hc29 => ?_)
  · have hc29d := decide_eq_false hc29
    first | rw [if_neg hc29] at h | rw [if_neg (ne_true_of_eq_false hc29d)] at h
    simp only [go_sem, seval, hr1, hc2, hc13, hr14, hr15, hr16, hr17, hr18, hr19, hr20, hr21, hr22, hr23, hr24, hc25, hc26d, hr27, hc28, hc29d]
    refine hZ _ (pp ?_)
    refine Wk_ret (pp ?_)
    cases h
    simp only [go_sem, seval, hr1, hc2, hc13, hr14, hr15, hr16, hr17, hr18, hr19, hr20, hr21, hr22, hr23, hr24, hc25, hc26d, hr27, hc28, hc29d]
    exact ⟨_, rfl, RokI.h, PureI.h⟩
  have hc29d := decide_eq_true hc29
  first | rw [if_pos hc29] at h | rw [if_pos hc29d] at h
  obtain ⟨r29, hr30, h⟩ := Option.bind_eq_some_iff.1 h
  simp only [go_sem, seval, hr1, hc2, hc13, hr14, hr15, hr16, hr17, hr18, hr19, hr20, hr21, hr22, hr23, hr24, hc25, hc26d, hr27, hc28, hc29d, hr30]
  refine sw (RX_guard_bool rfl) (fun hc31 => ?_) (fun hc31 => ?_)
  · rw [if_neg (ne_true_of_eq_false hc31)] at h
    simp only [go_sem, seval, hr1, hc2, hc13, hr14, hr15, hr16, hr17, hr18, hr19, hr20, hr21, hr22, hr23, hr24, hc25, hc26d, hr27, hc28, hc29d, hr30, hc31]
    refine hZ _ (pp ?_)
    refine Wk_ret (pp ?_)
    cases h
    simp only [go_sem, seval, hr1, hc2, hc13, hr14, hr15, hr16, hr17, hr18, hr19, hr20, hr21, hr22, hr23, hr24, hc25, hc26d, hr27, hc28, hc29d, hr30, hc31]
    exact ⟨_, rfl, RokI.h, PureI.h⟩
  rw [if_pos hc31] at h
  simp only [go_sem, seval, hr1, hc2, hc13, hr14, hr15, hr16, hr17, hr18, hr19, hr20, hr21, hr22, hr23, hr24, hc25, hc26d, hr27, hc28, hc29d, hr30, hc31]
  refine sw (RX_guard_dec rfl) (fun hc32 => ?_) (fun hc32 => ?_)
  · have hc32d := decide_eq_false hc32
    first | rw [if_neg hc32] at h | rw [if_neg (ne_true_of_eq_false hc32d)] at h
    simp only [go_sem, seval, hr1, hc2, hc13, hr14, hr15, hr16, hr17, hr18, hr19, hr20, hr21, hr22, hr23, hr24, hc25, hc26d, hr27, hc28, hc29d, hr30, hc31, hc32d]
    refine hZ _ (pp ?_)
    refine Wk_ret (pp ?_)
    cases h
    simp only [go_sem, seval, hr1, hc2, hc13, hr14, hr15, hr16, hr17, hr18, hr19, hr20, hr21, hr22, hr23, hr24, hc25, hc26d, hr27, hc28, hc29d, hr30, hc31, hc32d]
    exact ⟨_, rfl, RokI.h, PureI.h⟩
  have hc32d := decide_eq_true hc32
  first | rw [if_pos hc32] at h | rw [if_pos hc32d] at h
  obtain ⟨r30, hr33, h⟩ := Option.bind_eq_some_iff.1 h
  simp only [go_sem, seval, hr1, hc2, hc13, hr14, hr15, hr16, hr17, hr18, hr19, hr20, hr21, hr22, hr23, hr24, hc25, hc26d, hr27, hc28, hc29d, hr30, hc31, hc32d, hr33]
  refine sw (RX_guard_bool rfl) (fun hc34 => ?_) (fun hc34 => ?_)
  · rw [if_neg (ne_true_of_eq_false hc34)] at h
    simp only [go_sem, seval, hr1, hc2, hc13, hr14, hr15, hr16, hr17, hr18, hr19, hr20, hr21, hr22, hr23, hr24, hc25, hc26d, hr27, hc28, hc29d, hr30, hc31, hc32d, hr33, hc34]
    refine hZ _ (pp ?_)
    refine Wk_ret (pp ?_)
    cases h
    simp only [go_sem, seval, hr1, hc2, hc13, hr14, hr15, hr16, hr17, hr18, hr19, hr20, hr21, hr22, hr23, hr24, hc25, hc26d, hr27, hc28, hc29d, hr30, hc31, hc32d, hr33, hc34]
    exact ⟨_, rfl, RokI.h, PureI.h⟩
  rw [if_pos hc34] at h
  obtain ⟨r31, hr35, h⟩ := Option.bind_eq_some_iff.1 h
  simp only [go_sem, seval, hr1, hc2, hc13, hr14, hr15, hr16, hr17, hr18, hr19, hr20, hr21, hr22, hr23, hr24, hc25, hc26d, hr27, hc28, hc29d, hr30, hc31, hc32d, hr33, hc34, hr35]
  refine sw (RX_guard_bool rfl) (fun hc36 => ?_) (fun hc36 => ?_)
  · rw [if_neg (ne_true_of_eq_false hc36)] at h
    simp only [go_sem, seval, hr1, hc2, hc13, hr14, hr15, hr16, hr17, hr18, hr19, hr20, hr21, hr22, hr23, hr24, hc25, hc26d, hr27, hc28, hc29d, hr30, hc31, hc32d, hr33, hc34, hr35, hc36]
    refine hZ _ (pp ?_)
    refine Wk_ret (pp ?_)
    cases h
    simp only [go_sem, seval, hr1, hc2, hc13, hr14, hr15, hr16, hr17, hr18, hr19, hr20, hr21, hr22, hr23, hr24, hc25, hc26d, hr27, hc28, hc29d, hr30, hc31, hc32d, hr33, hc34, hr35, hc36]
    exact ⟨_, rfl, RokI.h, PureI.h⟩
  rw [if_pos hc36] at h
  simp only [go_sem, seval, hr1, hc2, hc13, hr14, hr15, hr16, hr17, hr18, hr19, hr20, hr21, hr22, hr23, hr24, hc25, hc26d, hr27, hc28, hc29d, hr30, hc31, hc32d, hr33, hc34, hr35, hc36]
  refine sw (RX_guard_dec rfl) (fun hc37 => ?_) (fun hc37 => ?_)
  · have hc37d := decide_eq_false hc37
    first | rw [if_neg hc37] at h | rw [if_neg (ne_true_of_eq_false hc37d)] at h
    simp only [go_sem, seval, hr1, hc2, hc13, hr14, hr15, hr16, hr17, hr18, hr19, hr20, hr21, hr22, hr23, hr24, hc25, hc26d, hr27, hc28, hc29d, hr30, hc31, hc32d, hr33, hc34, hr35, hc36, hc37d]
    refine hZ _ (pp ?_)
    refine Wk_ret (pp ?_)
    cases h
    simp only [go_sem, seval, hr1, hc2, hc13, hr14, hr15, hr16, hr17, hr18, hr19, hr20, hr21, hr22, hr23, hr24, hc25, hc26d, hr27, hc28, hc29d, hr30, hc31, hc32d, hr33, hc34, hr35, hc36, hc37d]
    exact ⟨_, rfl, RokI.h, PureI.h⟩
  have hc37d := decide_eq_true hc37
  first | rw [if_pos hc37] at h | rw [if_pos hc37d] at h
  obtain ⟨r32, hr38, h⟩ := Option.bind_eq_some_iff.1 h
  simp only [go_sem, seval, hr1, hc2, hc13, hr14, hr15, hr16, hr17, hr18, hr19, hr20, hr21, hr22, hr23, hr24, hc25, hc26d, hr27, hc28, hc29d, hr30, hc31, hc32d, hr33, hc34, hr35, hc36, hc37d, hr38]
  refine RX_guard_bool rfl (fun hc39 => ?_) (fun hc39 => ?_)
  · rw [if_pos hc39] at h
    simp only [go_sem, seval, hr1, hc2, hc13, hr14, hr15, hr16, hr17, hr18, hr19, hr20, hr21, hr22, hr23, hr24, hc25, hc26d, hr27, hc28, hc29d, hr30, hc31, hc32d, hr33, hc34, hr35, hc36, hc37d, hr38, hc39]
    refine hZ _ (pp ?_)
    refine Wk_ret (pp ?_)
    cases h
    simp only [go_sem, seval, hr1, hc2, hc13, hr14, hr15, hr16, hr17, hr18, hr19, hr20, hr21, hr22, hr23, hr24, hc25, hc26d, hr27, hc28, hc29d, hr30, hc31, hc32d, hr33, hc34, hr35, hc36, hc37d, hr38, hc39]
    exact ⟨_, rfl, RokI.h, PureI.h⟩
  rw [if_neg (ne_true_of_eq_false hc39)] at h
  simp only [go_sem, seval, hr1, hc2, hc13, hr14, hr15, hr16, hr17, hr18, hr19, hr20, hr21, hr22, hr23, hr24, hc25, hc26d, hr27, hc28, hc29d, hr30, hc31, hc32d, hr33, hc34, hr35, hc36, hc37d, hr38, hc39]
  refine hZ _ (pp ?_)
  refine Wk_ret (pp ?_)
  cases h
  simp only [go_sem, seval, hr1, hc2, hc13, hr14, hr15, hr16, hr17, hr18, hr19, hr20, hr21, hr22, hr23, hr24, hc25, hc26d, hr27, hc28, hc29d, hr30, hc31, hc32d, hr33, hc34, hr35, hc36, hc37d, hr38, hc39]
  exact ⟨_, rfl, RokI.h, PureI.h⟩
def fs_law24_TurnsCalls (N : Nat) : FnS := { own := [], pure := true, fn := fun cs => match cs with
  | [c0, c1, c2, c3, c4, c5, c6, c7, c8] => (Actor.decA c0).bind fun qc0 => (Turn.decA c1).bind fun qc1 => (Ref.decA c2).bind fun qc2 => (decS c3).bind fun qc3 => ((decL 5 Value.dec) c4).bind fun qc4 => (decS c5).bind fun qc5 => ((decI .i64) c6).bind fun qc6 => ((decL 1 (dec1 (decI .i64))) c7).bind fun qc7 => (Reply.decA c8).bind fun qc8 => (law24_TurnsCalls N qc0 qc1 qc2 qc3 qc4 qc5 qc6 qc7 qc8).map fun r => .val (.bool r)
  | _ => none }
attribute [go_sem] fs_law24_TurnsCalls
theorem fs_law24_TurnsCalls_ok (N : Nat) : FSOk Try.prog 5 (fs_law24_TurnsCalls N) := by
  refine ⟨fun cs r h => ?_, fun h => by cases h⟩
  simp only [fs_law24_TurnsCalls] at h
  split at h
  · simp only [Option.bind_eq_some_iff, Option.map_eq_some_iff] at h
    obtain ⟨q0, h0, q1, h1, q2, h2, q3, h3, q4, h4, q5, h5, q6, h6, q7, h7, q8, h8, r', hr, rfl⟩ := h
    exact ((w_law24_TurnsCalls N q0 q1 q2 q3 q4 q5 q6 q7 q8 r' hr).args (LeL.cons (Actor.decA_le h0) (LeL.cons (Turn.decA_le h1) (LeL.cons (Ref.decA_le h2) (LeL.cons (decS_le h3) (LeL.cons (decL_le Value.dec_le h4) (LeL.cons (decS_le h5) (LeL.cons (decI_le h6) (LeL.cons (decL_le (decI1_le .i64) h7) (LeL.cons (Reply.decA_le h8) (LeL.nil)))))))))))
  · cases h

end Go.Proofs.Ytmgpaicldmgckaa
