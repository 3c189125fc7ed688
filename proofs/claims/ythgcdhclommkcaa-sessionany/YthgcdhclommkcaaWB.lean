/- Walks: each function computes its model. No condition. -/
import Derived.Test.YthgcdhclommkcaaB
import Derived.Test.YthgcdhclommkcaaWA
/- Each Go function computes its model: proofs laid by a program of ours. -/
set_option maxHeartbeats 40000000
set_option synthInstance.maxHeartbeats 2000000
set_option synthInstance.maxSize 4000
set_option linter.unusedSimpArgs false
set_option linter.unusedVariables false
set_option maxRecDepth 100000
namespace Go.Proofs.Ythgcdhclommkcaa
open Go Go.Proofs Go.Abs
noncomputable def G_ref34_Resend (N d f : Nat) : Option FnS := glist [(9, 34, fs_ref34_Valid N), (21, 54, fso_ref34_Copy N), (48, 52, fs_ref34_acknowledged N), (59, 55, fs_ref34_CopySubmission N)] d f
attribute [go_sem] G_ref34_Resend
theorem w_ref34_Resend (N : Nat) (a0 : Session) (a1 : Int) (r : Session × (List Submission)) (h : ref34_Resend N a0 a1 = some r) : Con Try.prog 31 [] false [.agg (Session.row a0), .val (.int .i64 a1)] (.tup [.agg [.val (.string r.1.Name), .val (.int .i64 r.1.Next), .sl true none 6 none (r.1.Open.map PendingSubmission.row)], .sl true none 5 none (r.2.map Submission.row)]) := by
  refine fun_ok4 (G := (G_ref34_Resend N)) Try.func31 rfl (by decide) (by kernel_rfl) (gc 9 (fs_ref34_Valid_ok N) (gc 21 (fso_ref34_Copy_ok N) (gc 48 (fs_ref34_acknowledged_ok N) (gc 59 (fs_ref34_CopySubmission_ok N) gn)))) [] mix (Nat.le_of_ble_eq_true rfl) ?_
  simp only [Try.f31]
  unfold ref34_Resend at h
  refine Wk_seq (Wk_regionZ fun Z hZ => ?_)
  simp only [go_sem, seval]
  refine hZ _ (pp (Wk_seq ?_))
  apply Wk_join1 (fun (c5 : Bool) => ⟨tab 64 (updT (updT (updT (updT deadT 1 (.val (.int .i64 a1))) 2 (.pref 2 [] 0 0)) 4 (.pref 4 [] 0 0)) 18 (.val (.bool c5))), (upd (upd RZ 2 (.sl true none 3 (some 1) [Session.row a0])) 4 (.sl true none 3 (some 1) [[.val (.string (⟨#[]⟩)), .val (.int .i64 0), .val (.slice none 0 0)]]))⟩)
  · intro hJ1
    obtain ⟨r6, hr2, h⟩ := Option.bind_eq_some_iff.1 h
    refine Wk_regionZ fun Z hZ => ?_
    simp only [go_sem, seval, hr2]
    refine RX_guard_nbool rfl (fun hc3 => ?_) (fun hc3 => ?_)
    · rw [if_neg (ne_true_of_eq_false hc3)] at h
      simp only [go_sem, seval, hc3]
      refine hZ _ (pp (hJ1 _ true ?_ h))
      refine weak_roots ?_ ?_ <;> repeat' first | exact xn | exact rn | refine xc ?_ ?_ | refine rc ?_ ?_ ?_ | rfl | simp only [go_sem, seval, Bool.or_self, List.length_set, Int.natCast_zero, Int.cast_ofNat_Int, hr2, hc3]
    rw [if_pos hc3] at h
    simp only [go_sem, seval, hc3]
    refine RX_guard_dec rfl (fun hc4 => ?_) (fun hc4 => ?_)
    · have hc4d := decide_eq_true hc4
      rw [if_pos hc4] at h
      simp only [go_sem, seval, hc4d]
      refine hZ _ (pp (hJ1 _ true ?_ h))
      refine weak_roots ?_ ?_ <;> repeat' first | exact xn | exact rn | refine xc ?_ ?_ | refine rc ?_ ?_ ?_ | rfl | simp only [go_sem, seval, Bool.or_self, List.length_set, Int.natCast_zero, Int.cast_ofNat_Int, hr2, hc3, hc4d]
    have hc4d := decide_eq_false hc4
    rw [if_neg hc4] at h
    simp only [go_sem, seval, hc4d]
    refine hZ _ (pp (hJ1 _ (decide (1099511627776 < a1)) ?_ h))
    refine weak_roots ?_ ?_ <;> repeat' first | exact xn | exact rn | refine xc ?_ ?_ | refine rc ?_ ?_ ?_ | rfl | simp only [go_sem, seval, Bool.or_self, List.length_set, Int.natCast_zero, Int.cast_ofNat_Int, hr2, hc3, hc4d]
  intro c5 h
  unfold ref34_Resend_J1 at h
  refine Wk_cond_bool rfl (fun hc5 => ?_) (fun hc5 => ?_)
  · rw [if_pos hc5] at h
    refine Wk_seq (Wk_regionZ fun Z hZ => ?_)
    simp only [go_sem, seval, hc5]
    refine hZ _ (pp (Wk_ret (pp ?_)))
    cases h
    simp only [go_sem, seval]
    exact ⟨_, rfl, RokI.h⟩
  rw [if_neg (ne_true_of_eq_false hc5)] at h
  refine Wk_skip (pp ?_)
  unfold ref34_Resend_J2 at h
  refine Wk_seq ?_
  obtain ⟨r7, hr6, h⟩ := Option.bind_eq_some_iff.1 h
  refine Wk_regionZ fun Z hZ => ?_
  simp only [go_sem, seval, hc5, hr6]
  refine hZ _ (pp (Wk_seq (Wk_regionZ fun Z hZ => ?_)))
  simp only [go_sem, seval]
  refine hZ _ (pp (Wk_seq (Wk_seq (Wk_regionZ fun Z hZ => ?_))))
  simp only [go_sem, seval]
  refine hZ _ (pp (Wk_block (Wk_fuel (fun (b : List PendingSubmission × List Submission × Int) => ⟨tab 64 (updT (updT (updT (updT (updT deadT 1 (.val (.int .i64 a1))) 2 (.pref 2 [] 0 0)) 4 (.pref 4 [] 0 0)) 6 (.pal 61 [] 0 b.2.1.length none)) 7 (.val (.int .i64 b.2.2))), (upd (upd (upd RZ 2 (.sl true none 3 (some 1) [[.val (.string r7.Name), .val (.int .i64 r7.Next), .sl true none 6 none (b.1.map PendingSubmission.row)]])) 4 (.sl true none 3 (some 1) [[.val (.string (⟨#[]⟩)), .val (.int .i64 0), .val (.slice none 0 0)]])) 61 (.sl true none 5 none (b.2.1.map Submission.row)))⟩) (r7.Open, [], 0) h ?_ ?_)))
  · refine Weak.trans (weak_adopt 6 61 5 (by simp only [go_sem, seval]) (by simp only [go_sem, seval])) ?_
    refine weak_roots ?_ ?_ <;> repeat' first | exact xn | exact rn | refine xc ?_ ?_ | refine rc ?_ ?_ ?_ | rfl | simp only [go_sem, seval, Bool.or_self, List.length_set, Int.natCast_zero, Int.cast_ofNat_Int, hc5, hr6]
  rintro n ⟨l7, l8, v9⟩ h -
  cases n with
  | zero => simp [ref34_Resend_L1] at h
  | succ n =>
  simp only [ref34_Resend_L1] at h
  refine Wk_seq (Wk_seq (Wk_regionZ fun Z hZ => ?_))
  simp only [go_sem, seval]
  refine hZ _ (pp (sw (Wk_cond_dec rfl) (fun hc7 => ?_) (fun hc7 => ?_)))
  · have hc7d := decide_eq_false hc7
    rw [if_neg hc7] at h
    refine Wk_exit (pp (Wk_seq (Wk_regionZ fun Z hZ => ?_)))
    simp only [go_sem, seval, hc7d]
    refine hZ _ (pp (Wk_ret (pp ?_)))
    cases h
    simp only [go_sem, seval]
    exact ⟨_, rfl, RokI.h⟩
  have hc7d := decide_eq_true hc7
  rw [if_pos hc7] at h
  refine Wk_skip (pp (Wk_seq (Wk_block (Wk_seq (Wk_seq ?_)))))
  obtain ⟨x8, hb8, hx9, h⟩ := gx_some h
  refine Wk_regionZ fun Z hZ => ?_
  simp only [go_sem, seval, hb8, hx9]
  refine hZ _ (pp (Wk_cond_dec rfl (fun hc10 => ?_) (fun hc10 => ?_)))
  · have hc10d := decide_eq_true hc10
    rw [if_pos hc10] at h
    refine Wk_exit (pp (Wk_regionZ fun Z hZ => ?_))
    simp only [go_sem, seval, hc10d]
    refine hZ _ (pp (⟨_, Nat.lt_succ_self _, (l7, l8, IntKind.i64.wrap (v9 + 1)), ?_, h⟩))
    refine weak_roots ?_ ?_ <;> repeat' first | exact xn | exact rn | refine xc ?_ ?_ | refine rc ?_ ?_ ?_ | rfl | simp only [go_sem, seval, Bool.or_self, List.length_set, Int.natCast_zero, Int.cast_ofNat_Int, hc5, hr6, hc7d, hb8, hx9, hc10d]
  have hc10d := decide_eq_false hc10
  rw [if_neg hc10] at h
  refine Wk_skip (pp (Wk_seq ?_))
  have hx12 := set_get (y := (PendingSubmission.mk x8.Submission_ a1)) hx9
  refine Wk_regionZ fun Z hZ => ?_
  simp only [go_sem, seval, hb8, hx9, hc10d, map_modify2 (row := PendingSubmission.row) (y := (PendingSubmission.mk x8.Submission_ a1)) (rx := [.val (.string x8.Submission_.Client), .val (.int .i64 x8.Submission_.Seq), .val (.int .i64 x8.Submission_.Acked), .val (.bool x8.Submission_.Atomic), .sl false none 4 none (x8.Submission_.Calls.map ActorCall.row), .val (.int .i64 x8.Sent)]) (ry := [.val (.string x8.Submission_.Client), .val (.int .i64 x8.Submission_.Seq), .val (.int .i64 x8.Submission_.Acked), .val (.bool x8.Submission_.Atomic), .sl false none 4 none (x8.Submission_.Calls.map ActorCall.row), .val (.int .i64 a1)]) hx9 rfl rfl]
  refine hZ _ (pp (Wk_seq ?_))
  obtain ⟨r9, hr13, h⟩ := Option.bind_eq_some_iff.1 h
  have hx15 := set_get (y := (PendingSubmission.mk (Submission.mk x8.Submission_.Client x8.Submission_.Seq r9 x8.Submission_.Atomic x8.Submission_.Calls) a1)) hx9
  refine Wk_regionD fun Z hZ => ?_
  simp only [go_sem, seval, hb8, hx12, hr13, map_modify3 (row := PendingSubmission.row) (y0 := (PendingSubmission.mk x8.Submission_ a1)) (y := (PendingSubmission.mk (Submission.mk x8.Submission_.Client x8.Submission_.Seq r9 x8.Submission_.Atomic x8.Submission_.Calls) a1)) (rx := [.val (.string x8.Submission_.Client), .val (.int .i64 x8.Submission_.Seq), .val (.int .i64 x8.Submission_.Acked), .val (.bool x8.Submission_.Atomic), .sl false none 4 none (x8.Submission_.Calls.map ActorCall.row), .val (.int .i64 a1)]) (ry := [.val (.string x8.Submission_.Client), .val (.int .i64 x8.Submission_.Seq), .val (.int .i64 r9), .val (.bool x8.Submission_.Atomic), .sl false none 4 none (x8.Submission_.Calls.map ActorCall.row), .val (.int .i64 a1)]) hx9 rfl rfl]
  repeat with_reducible refine and_bar (by kernel_rfl) ?_
  refine hZ _ (by kernel_rfl) (pp ?_)
  obtain ⟨r10, hr16, h⟩ := Option.bind_eq_some_iff.1 h
  obtain ⟨ha17, h⟩ := apx_some h
  simp only [List.length_cons, List.length_nil, Nat.zero_add, Nat.reduceAdd] at ha17
  refine Wk_regionZ fun Z hZ => ?_
  simp only [go_sem, seval, hb8, hx15, hr16, ha17]
  refine hZ _ (pp (Wk_regionZ fun Z hZ => ?_))
  simp only [go_sem, seval]
  refine hZ _ (pp (⟨_, Nat.lt_succ_self _, ((l7.set ((v9).toNat) (PendingSubmission.mk (Submission.mk x8.Submission_.Client x8.Submission_.Seq r9 x8.Submission_.Atomic x8.Submission_.Calls) a1)), (l8 ++ [r10]), IntKind.i64.wrap (v9 + 1)), ?_, h⟩))
  refine weak_roots ?_ ?_ <;> repeat' first | exact xn | exact rn | refine xc ?_ ?_ | refine rc ?_ ?_ ?_ | rfl | simp only [go_sem, seval]
def fs_ref34_Resend (N : Nat) : FnS := ⟨[], false, fn2 Session.decA (decI .i64) fun q0 q1 => (ref34_Resend N q0 q1).map fun r => .tup [.agg (Session.row r.1), .sl false none 5 none (r.2.map Submission.row)], false⟩
attribute [go_sem] fs_ref34_Resend
theorem fs_ref34_Resend_ok (N : Nat) : FSOk Try.prog 31 (fs_ref34_Resend N) := ok2 (fun q0 q1 r h => by
  obtain ⟨r', hr, rfl⟩ := Option.map_eq_some_iff.1 h
  exact (w_ref34_Resend N q0 q1 r' hr).res (by (try simp only [go_sem]); exact RokI.h)) (Session.decA_le) (decI_le)

def fso_ref34_Resend (N : Nat) : FnS := ⟨[], false, fn2 Session.decA (decI .i64) fun q0 q1 => (ref34_Resend N q0 q1).map fun r => .tup [.agg [.val (.string r.1.Name), .val (.int .i64 r.1.Next), .sl true none 6 none (r.1.Open.map PendingSubmission.row)], .sl true none 5 none (r.2.map Submission.row)], false⟩
attribute [go_sem] fso_ref34_Resend
theorem fso_ref34_Resend_ok (N : Nat) : FSOk Try.prog 31 (fso_ref34_Resend N) := ok2 (fun q0 q1 r h => by
  obtain ⟨r', hr, rfl⟩ := Option.map_eq_some_iff.1 h
  exact w_ref34_Resend N q0 q1 r' hr) (Session.decA_le) (decI_le)


noncomputable def G_ref16_ValidReply (N d f : Nat) : Option FnS := glist [(5, 24, fs_ref16_ValidName N), (35, 51, fs_ref1_ValidValue N)] d f
attribute [go_sem] G_ref16_ValidReply
theorem w_ref16_ValidReply (N : Nat) (a0 : Reply) (r : Bool) (h : ref16_ValidReply N a0 = some r) : Con Try.prog 56 [] true [.agg (Reply.row a0)] (.val (.bool r)) := by
  refine fun_ok4 (G := (G_ref16_ValidReply N)) Try.func56 rfl (by decide) (by kernel_rfl) (gc 5 (fs_ref16_ValidName_ok N) (gc 35 (fs_ref1_ValidValue_ok N) gn)) [] mix (Nat.le_of_ble_eq_true rfl) ?_
  simp only [Try.f56]
  unfold ref16_ValidReply at h
  refine Wk_seq (Wk_regionZ fun Z hZ => ?_)
  simp only [go_sem, seval]
  refine hZ _ (pp (Wk_seq ?_))
  obtain ⟨r1, hr1, h⟩ := Option.bind_eq_some_iff.1 h
  refine Wk_regionZ fun Z hZ => ?_
  simp only [go_sem, seval, hr1]
  refine sw (RX_guard_bool rfl) (fun hc2 => ?_) (fun hc2 => ?_)
  · rw [if_neg (ne_true_of_eq_false hc2)] at h
    simp only [go_sem, seval, hc2]
    refine hZ _ (pp (Wk_ret (pp ?_)))
    cases h
    simp only [go_sem, seval]
    exact ⟨_, rfl, RokI.h, PureI.h⟩
  rw [if_pos hc2] at h
  simp only [go_sem, seval, hc2]
  refine sw (RX_guard_dec rfl) (fun hc3 => ?_) (fun hc3 => ?_)
  · have hc3d := decide_eq_false hc3
    rw [if_neg hc3] at h
    simp only [go_sem, seval, hc3d]
    refine hZ _ (pp (Wk_ret (pp ?_)))
    cases h
    simp only [go_sem, seval]
    exact ⟨_, rfl, RokI.h, PureI.h⟩
  have hc3d := decide_eq_true hc3
  rw [if_pos hc3] at h
  simp only [go_sem, seval, hc3d]
  refine sw (RX_guard_dec rfl) (fun hc4 => ?_) (fun hc4 => ?_)
  · have hc4d := decide_eq_false hc4
    rw [if_neg hc4] at h
    simp only [go_sem, seval, hc4d]
    refine hZ _ (pp (Wk_ret (pp ?_)))
    cases h
    simp only [go_sem, seval]
    exact ⟨_, rfl, RokI.h, PureI.h⟩
  have hc4d := decide_eq_true hc4
  rw [if_pos hc4] at h
  simp only [go_sem, seval, hc4d]
  refine sw (RX_guard_dec rfl) (fun hc5 => ?_) (fun hc5 => ?_)
  · have hc5d := decide_eq_false hc5
    rw [if_neg hc5] at h
    simp only [go_sem, seval, hc5d]
    refine hZ _ (pp (Wk_ret (pp ?_)))
    cases h
    simp only [go_sem, seval]
    exact ⟨_, rfl, RokI.h, PureI.h⟩
  have hc5d := decide_eq_true hc5
  rw [if_pos hc5] at h
  simp only [go_sem, seval, hc5d]
  refine sw (RX_guard_dec rfl) (fun hc6 => ?_) (fun hc6 => ?_)
  · have hc6d := decide_eq_false hc6
    rw [if_neg hc6] at h
    simp only [go_sem, seval, hc6d]
    refine hZ _ (pp (Wk_ret (pp ?_)))
    cases h
    simp only [go_sem, seval]
    exact ⟨_, rfl, RokI.h, PureI.h⟩
  have hc6d := decide_eq_true hc6
  rw [if_pos hc6] at h
  simp only [go_sem, seval, hc6d]
  refine sw (RX_guard_dec rfl) (fun hc7 => ?_) (fun hc7 => ?_)
  · have hc7d := decide_eq_false hc7
    rw [if_neg hc7] at h
    simp only [go_sem, seval, hc7d]
    refine hZ _ (pp (Wk_ret (pp ?_)))
    cases h
    simp only [go_sem, seval]
    exact ⟨_, rfl, RokI.h, PureI.h⟩
  have hc7d := decide_eq_true hc7
  rw [if_pos hc7] at h
  obtain ⟨r2, hr8, h⟩ := Option.bind_eq_some_iff.1 h
  simp only [go_sem, seval, hc7d, hr8]
  refine sw (RX_guard_bool rfl) (fun hc9 => ?_) (fun hc9 => ?_)
  · rw [if_neg (ne_true_of_eq_false hc9)] at h
    simp only [go_sem, seval, hc9]
    refine hZ _ (pp (Wk_ret (pp ?_)))
    cases h
    simp only [go_sem, seval]
    exact ⟨_, rfl, RokI.h, PureI.h⟩
  rw [if_pos hc9] at h
  simp only [go_sem, seval, hc9]
  refine RX_guard_dec rfl (fun hc10 => ?_) (fun hc10 => ?_)
  · have hc10d := decide_eq_true hc10
    rw [if_pos hc10] at h
    simp only [go_sem, seval, hc10d]
    refine hZ _ (pp (Wk_ret (pp ?_)))
    cases h
    simp only [go_sem, seval]
    exact ⟨_, rfl, RokI.h, PureI.h⟩
  have hc10d := decide_eq_false hc10
  rw [if_neg hc10] at h
  simp only [go_sem, seval, hc10d]
  refine hZ _ (pp (Wk_ret (pp ?_)))
  cases h
  simp only [go_sem, seval]
  exact ⟨_, rfl, RokI.h, PureI.h⟩
def fs_ref16_ValidReply (N : Nat) : FnS := ⟨[], true, fn1 Reply.decA fun q0 => (ref16_ValidReply N q0).map fun r => .val (.bool r), false⟩
attribute [go_sem] fs_ref16_ValidReply
theorem fs_ref16_ValidReply_ok (N : Nat) : FSOk Try.prog 56 (fs_ref16_ValidReply N) := ok1 (fun q0 r h => by
  obtain ⟨r', hr, rfl⟩ := Option.map_eq_some_iff.1 h
  exact w_ref16_ValidReply N q0 r' hr) (Reply.decA_le)


noncomputable def G_ref34_Accept (N d f : Nat) : Option FnS := glist [(8, 34, fs_ref34_Valid N), (12, 54, fs_ref34_Copy N), (14, 56, fs_ref16_ValidReply N)] d f
attribute [go_sem] G_ref34_Accept
theorem w_ref34_Accept (N : Nat) (a0 : Session) (a1 : Reply) (r : Session × Bool) (h : ref34_Accept N a0 a1 = some r) : Con Try.prog 32 [] false [.agg (Session.row a0), .agg (Reply.row a1)] (.tup [.agg (Session.row r.1), .val (.bool r.2)]) := by
  refine fun_ok4 (G := (G_ref34_Accept N)) Try.func32 rfl (by decide) (by kernel_rfl) (gc 8 (fs_ref34_Valid_ok N) (gc 12 (fs_ref34_Copy_ok N) (gc 14 (fs_ref16_ValidReply_ok N) gn))) [(51, false)] mix (Nat.le_of_ble_eq_true rfl) ?_
  simp only [Try.f32]
  unfold ref34_Accept at h
  refine Wk_seq (Wk_regionZ fun Z hZ => ?_)
  simp (config := { maxSteps := 4000000 }) only [go_sem, seval]
  refine hZ _ (pp (Wk_seq (Wk_seq ?_)))
  obtain ⟨r1, hr1, h⟩ := Option.bind_eq_some_iff.1 h
  refine Wk_regionZ fun Z hZ => ?_
  simp (config := { maxSteps := 4000000 }) only [go_sem, seval, hr1]
  refine hZ _ (pp (Wk_cond_nbool rfl (fun hc2 => ?_) (fun hc2 => ?_)))
  · first | rw [if_neg (ne_true_of_eq_false hc2)] at h | simp only [hc2, Bool.or_false, Bool.or_true, Bool.false_or, Bool.true_or, Bool.and_true, Bool.true_and, Bool.and_false, Bool.false_and, Bool.not_true, Bool.not_false, Bool.false_eq_true, if_true, if_false] at h
    refine Wk_seq (Wk_regionZ fun Z hZ => ?_)
    simp (config := { maxSteps := 4000000 }) only [go_sem, seval, hc2]
    refine hZ _ (pp (Wk_ret (pp ?_)))
    cases h
    simp (config := { maxSteps := 4000000 }) only [go_sem, seval]
    exact ⟨_, rfl, (by repeat' (first | exact ROk.refl _ | exact ROk.nil _ | ((refine ROk.of _ ?_ ?_); (focus ((repeat' (first | exact Le.refl _ | exact LeL.nil | exact Le.nils | exact LeLL.refl _ | refine LeLL.mapAppend ?_ ?_ | refine LeLL.cons ?_ ?_ | refine Le.sl ?_ | refine Le.tup ?_ | refine Le.agg ?_ | refine LeL.cons ?_ ?_)); done)); (focus ((repeat' (first | exact NoOwn.val _ | exact NoOwn.sl _ _ _ _ | refine NoOwn.tup ?_ | refine NoOwn.agg ?_ | exact noOwn_nil | refine noOwn_cons ?_ ?_)); done))) | ((refine ROk.own ?_ ?_); (focus ((repeat' (first | exact Le.refl _ | exact LeL.nil | exact Le.nils | exact LeLL.refl _ | refine LeLL.mapAppend ?_ ?_ | refine LeLL.cons ?_ ?_ | refine Le.sl ?_ | refine Le.tup ?_ | refine Le.agg ?_ | refine LeL.cons ?_ ?_)); done)); (focus ((first | exact RowOk.noOwn (rowI_ok .i64) _ | exact RowOk.noOwn ActorCall.row_ok _ | exact RowOk.noOwn PendingSubmission.row_ok _ | exact RowOk.noOwn Value.row_ok _ | exact RowOk.noOwn rowS_ok _); done))) | refine ROk.agg rfl ?_ | refine ROk.tup rfl ?_ | exact rok_nil | refine rok_cons ?_ ?_))⟩
  first | rw [if_pos hc2] at h | simp only [hc2, Bool.or_false, Bool.or_true, Bool.false_or, Bool.true_or, Bool.and_true, Bool.true_and, Bool.and_false, Bool.false_and, Bool.not_true, Bool.not_false, Bool.false_eq_true, if_true, if_false] at h
  refine Wk_skip (pp (Wk_seq ?_))
  obtain ⟨r2, hr3, h⟩ := Option.bind_eq_some_iff.1 h
  refine Wk_regionZ fun Z hZ => ?_
  simp (config := { maxSteps := 4000000 }) only [go_sem, seval, hc2, hr3]
  refine hZ _ (pp (Wk_seq ?_))
  apply Wk_join1 (fun (c7 : Bool) => ⟨tab 55 (updT (updT (updT (updT deadT 2 (.pref 2 [] 0 0)) 3 (.pref 3 [] 0 0)) 4 (.pref 4 [] 0 0)) 22 (.val (.bool c7))), (upd (upd (upd RZ 2 (.sl true none 3 (some 1) [Session.row r2])) 3 (.sl true none 9 (some 1) [Reply.row a1])) 4 (.sl true none 3 (some 1) [[.val (.string (⟨#[]⟩)), .val (.int .i64 0), .val (.slice none 0 0)]]))⟩)
  · intro hJ4
    obtain ⟨r8, hr5, h⟩ := Option.bind_eq_some_iff.1 h
    refine Wk_regionZ fun Z hZ => ?_
    simp (config := { maxSteps := 4000000 }) only [go_sem, seval, hr5]
    refine RX_guard_nbool rfl (fun hc6 => ?_) (fun hc6 => ?_)
    · first | rw [if_neg (ne_true_of_eq_false hc6)] at h | simp only [hc6, hc2, Bool.or_false, Bool.or_true, Bool.false_or, Bool.true_or, Bool.and_true, Bool.true_and, Bool.and_false, Bool.false_and, Bool.not_true, Bool.not_false, Bool.false_eq_true, if_true, if_false] at h
      simp (config := { maxSteps := 4000000 }) only [go_sem, seval, hc6]
      refine hZ _ (pp (hJ4 _ true ?_ h))
      refine weak_roots ?_ ?_ <;> repeat' first | exact xn | exact rn | refine xc ?_ ?_ | refine rc ?_ ?_ ?_ | rfl
    first | rw [if_pos hc6] at h | simp only [hc6, hc2, Bool.or_false, Bool.or_true, Bool.false_or, Bool.true_or, Bool.and_true, Bool.true_and, Bool.and_false, Bool.false_and, Bool.not_true, Bool.not_false, Bool.false_eq_true, if_true, if_false] at h
    simp (config := { maxSteps := 4000000 }) only [go_sem, seval, hc6]
    refine hZ _ (pp (hJ4 _ (!(sEq a1.Client r2.Name)) ?_ h))
    refine weak_roots ?_ ?_ <;> repeat' first | exact xn | exact rn | refine xc ?_ ?_ | refine rc ?_ ?_ ?_ | rfl
  intro c7 h
  unfold ref34_Accept_J1 at h
  refine Wk_cond_bool rfl (fun hc7 => ?_) (fun hc7 => ?_)
  · first | rw [if_pos hc7] at h | simp only [hc7, hc2, Bool.or_false, Bool.or_true, Bool.false_or, Bool.true_or, Bool.and_true, Bool.true_and, Bool.and_false, Bool.false_and, Bool.not_true, Bool.not_false, Bool.false_eq_true, if_true, if_false] at h
    refine Wk_seq (Wk_regionZ fun Z hZ => ?_)
    simp (config := { maxSteps := 4000000 }) only [go_sem, seval, hc7]
    refine hZ _ (pp (Wk_ret (pp ?_)))
    cases h
    simp (config := { maxSteps := 4000000 }) only [go_sem, seval]
    exact ⟨_, rfl, (by repeat' (first | exact ROk.refl _ | exact ROk.nil _ | ((refine ROk.of _ ?_ ?_); (focus ((repeat' (first | exact Le.refl _ | exact LeL.nil | exact Le.nils | exact LeLL.refl _ | refine LeLL.mapAppend ?_ ?_ | refine LeLL.cons ?_ ?_ | refine Le.sl ?_ | refine Le.tup ?_ | refine Le.agg ?_ | refine LeL.cons ?_ ?_)); done)); (focus ((repeat' (first | exact NoOwn.val _ | exact NoOwn.sl _ _ _ _ | refine NoOwn.tup ?_ | refine NoOwn.agg ?_ | exact noOwn_nil | refine noOwn_cons ?_ ?_)); done))) | ((refine ROk.own ?_ ?_); (focus ((repeat' (first | exact Le.refl _ | exact LeL.nil | exact Le.nils | exact LeLL.refl _ | refine LeLL.mapAppend ?_ ?_ | refine LeLL.cons ?_ ?_ | refine Le.sl ?_ | refine Le.tup ?_ | refine Le.agg ?_ | refine LeL.cons ?_ ?_)); done)); (focus ((first | exact RowOk.noOwn (rowI_ok .i64) _ | exact RowOk.noOwn ActorCall.row_ok _ | exact RowOk.noOwn PendingSubmission.row_ok _ | exact RowOk.noOwn Value.row_ok _ | exact RowOk.noOwn rowS_ok _); done))) | refine ROk.agg rfl ?_ | refine ROk.tup rfl ?_ | exact rok_nil | refine rok_cons ?_ ?_))⟩
  first | rw [if_neg (ne_true_of_eq_false hc7)] at h | simp only [hc7, hc2, Bool.or_false, Bool.or_true, Bool.false_or, Bool.true_or, Bool.and_true, Bool.true_and, Bool.and_false, Bool.false_and, Bool.not_true, Bool.not_false, Bool.false_eq_true, if_true, if_false] at h
  refine Wk_skip (pp ?_)
  unfold ref34_Accept_J2 at h
  refine Wk_seq (Wk_seq (Wk_regionZ fun Z hZ => ?_))
  simp (config := { maxSteps := 4000000 }) only [go_sem, seval, hc7]
  refine hZ _ (pp (Wk_block (Wk_real fun hreal9 => ?_)))
  have hl8 := hreal9.cell 2 2 (by simp only [go_sem, seval]; rfl) rfl
  rw [List.length_map] at hl8
  refine Wk_range (fun (v9 : Nat) (b : Unit) => ⟨tab 55 (updT (updT (updT (updT deadT 2 (.pref 2 [] 0 0)) 3 (.pref 3 [] 0 0)) 4 (.pref 4 [] 0 0)) 6 (.val (.int .i64 ((v9 : Nat) : Int)))), (upd (upd (upd RZ 2 (.sl true none 3 (some 1) [Session.row r2])) 3 (.sl true none 9 (some 1) [Reply.row a1])) 4 (.sl true none 3 (some 1) [[.val (.string (⟨#[]⟩)), .val (.int .i64 0), .val (.slice none 0 0)]]))⟩) () h ?_ ?_
  · refine weak_roots ?_ ?_ <;> repeat' first | exact xn | exact rn | refine xc ?_ ?_ | refine rc ?_ ?_ ?_ | rfl
  rintro v9 ⟨⟩ hi10 h -
  rcases (drop_cases r2.Open v9 hi10).symm with ⟨hi10', _, hd13⟩ | ⟨x12, hi10', hx11, hd13⟩
  · rw [hd13] at h
    simp only [ref34_Accept_L1] at h
    refine Wk_seq (Wk_seq (Wk_regionZ fun Z hZ => ?_))
    simp (config := { maxSteps := 4000000 }) only [go_sem, seval, hi10']
    refine hZ _ (pp ?_)
    try simp only [Int.ofNat_lt, hi10', if_true, if_false] at h
    refine Wk_cond_f rfl (Wk_exit (pp (Wk_seq (Wk_regionZ fun Z hZ => ?_))))
    simp (config := { maxSteps := 4000000 }) only [go_sem, seval]
    refine hZ _ (pp (Wk_ret (pp ?_)))
    cases h
    simp (config := { maxSteps := 4000000 }) only [go_sem, seval]
    exact ⟨_, rfl, (by repeat' (first | exact ROk.refl _ | exact ROk.nil _ | ((refine ROk.of _ ?_ ?_); (focus ((repeat' (first | exact Le.refl _ | exact LeL.nil | exact Le.nils | exact LeLL.refl _ | refine LeLL.mapAppend ?_ ?_ | refine LeLL.cons ?_ ?_ | refine Le.sl ?_ | refine Le.tup ?_ | refine Le.agg ?_ | refine LeL.cons ?_ ?_)); done)); (focus ((repeat' (first | exact NoOwn.val _ | exact NoOwn.sl _ _ _ _ | refine NoOwn.tup ?_ | refine NoOwn.agg ?_ | exact noOwn_nil | refine noOwn_cons ?_ ?_)); done))) | ((refine ROk.own ?_ ?_); (focus ((repeat' (first | exact Le.refl _ | exact LeL.nil | exact Le.nils | exact LeLL.refl _ | refine LeLL.mapAppend ?_ ?_ | refine LeLL.cons ?_ ?_ | refine Le.sl ?_ | refine Le.tup ?_ | refine Le.agg ?_ | refine LeL.cons ?_ ?_)); done)); (focus ((first | exact RowOk.noOwn (rowI_ok .i64) _ | exact RowOk.noOwn ActorCall.row_ok _ | exact RowOk.noOwn PendingSubmission.row_ok _ | exact RowOk.noOwn Value.row_ok _ | exact RowOk.noOwn rowS_ok _); done))) | refine ROk.agg rfl ?_ | refine ROk.tup rfl ?_ | exact rok_nil | refine rok_cons ?_ ?_))⟩
  rw [hd13] at h
  simp only [ref34_Accept_L1] at h
  have hw12 := wrap_succ hi10' hl8
  refine Wk_seq (Wk_seq (Wk_regionZ fun Z hZ => ?_))
  simp (config := { maxSteps := 4000000 }) only [go_sem, seval, hi10']
  refine hZ _ (pp ?_)
  try simp only [Int.ofNat_lt, hi10', if_true, if_false] at h
  refine Wk_cond_t rfl (Wk_skip (pp (Wk_seq (Wk_block (Wk_seq ?_)))))
  try rw [gx_nat hx11] at h
  refine Wk_regionD fun Z hZ => ?_
  simp (config := { maxSteps := 4000000 }) only [go_sem, seval, hx11, hi10']
  repeat with_reducible refine and_bar (by kernel_rfl) ?_
  refine hZ _ (by kernel_rfl) (pp (sw (Wk_cond_dec rfl) (fun hc14 => ?_) (fun hc14 => ?_)))
  · have hc14d := decide_eq_false hc14
    first | rw [if_neg hc14] at h | rw [if_neg (ne_true_of_eq_false hc14d)] at h | simp only [hc14d, Bool.not_true, Bool.not_false, Bool.false_eq_true, if_true, if_false] at h
    refine Wk_skip (pp (Wk_regionZ fun Z hZ => ?_))
    simp (config := { maxSteps := 4000000 }) only [go_sem, seval, hw12, hc14d]
    refine hZ _ (pp ?_)
    first | refine ⟨(), ?_, h⟩ | refine ⟨hi10', (), ?_, h⟩
    refine weak_roots ?_ ?_ <;> repeat' first | exact xn | exact rn | refine xc ?_ ?_ | refine rc ?_ ?_ ?_ | rfl
  have hc14d := decide_eq_true hc14
  first | rw [if_pos hc14] at h | rw [if_pos hc14d] at h | simp only [hc14d, Bool.not_true, Bool.not_false, Bool.false_eq_true, if_true, if_false] at h
  refine Wk_seq ?_
  obtain ⟨hs15, ht16, h⟩ := slt_some h
  try simp only [Int.toNat_natCast] at hs15 ht16 h
  obtain ⟨hs17, h⟩ := slx_some h
  try simp only [hw12, Int.toNat_natCast] at hs17 h
  obtain ⟨ha18, h⟩ := apx_some h
  simp only [Nat.reduceAdd] at ha18
  refine Wk_regionD fun Z hZ => ?_
  simp (config := { maxSteps := 4000000 }) only [go_sem, seval, hw12, hc14d, hs15, ht16, Nat.sub_zero, Nat.zero_le, Nat.le_refl, hs17, ha18, Nat.lt_succ_self]
  repeat with_reducible refine and_bar (by kernel_rfl) ?_
  refine hZ _ (by kernel_rfl) (pp (Wk_seq (Wk_regionZ fun Z hZ => ?_)))
  simp (config := { maxSteps := 4000000 }) only [go_sem, seval, Nat.le_refl, Nat.lt_succ_self]
  refine hZ _ (pp (Wk_ret (pp ?_)))
  cases h
  simp (config := { maxSteps := 4000000 }) only [go_sem, seval, Nat.le_refl]
  exact ⟨_, rfl, (by repeat' (first | exact ROk.refl _ | exact ROk.nil _ | ((refine ROk.of _ ?_ ?_); (focus ((repeat' (first | exact Le.refl _ | exact LeL.nil | exact Le.nils | exact LeLL.refl _ | refine LeLL.mapAppend ?_ ?_ | refine LeLL.cons ?_ ?_ | refine Le.sl ?_ | refine Le.tup ?_ | refine Le.agg ?_ | refine LeL.cons ?_ ?_)); done)); (focus ((repeat' (first | exact NoOwn.val _ | exact NoOwn.sl _ _ _ _ | refine NoOwn.tup ?_ | refine NoOwn.agg ?_ | exact noOwn_nil | refine noOwn_cons ?_ ?_)); done))) | ((refine ROk.own ?_ ?_); (focus ((repeat' (first | exact Le.refl _ | exact LeL.nil | exact Le.nils | exact LeLL.refl _ | refine LeLL.mapAppend ?_ ?_ | refine LeLL.cons ?_ ?_ | refine Le.sl ?_ | refine Le.tup ?_ | refine Le.agg ?_ | refine LeL.cons ?_ ?_)); done)); (focus ((first | exact RowOk.noOwn (rowI_ok .i64) _ | exact RowOk.noOwn ActorCall.row_ok _ | exact RowOk.noOwn PendingSubmission.row_ok _ | exact RowOk.noOwn Value.row_ok _ | exact RowOk.noOwn rowS_ok _); done))) | refine ROk.agg rfl ?_ | refine ROk.tup rfl ?_ | exact rok_nil | refine rok_cons ?_ ?_))⟩
def fs_ref34_Accept (N : Nat) : FnS := ⟨[], false, fn2 Session.decA Reply.decA fun q0 q1 => (ref34_Accept N q0 q1).map fun r => .tup [.agg (Session.row r.1), .val (.bool r.2)], false⟩
attribute [go_sem] fs_ref34_Accept
theorem fs_ref34_Accept_ok (N : Nat) : FSOk Try.prog 32 (fs_ref34_Accept N) := ok2 (fun q0 q1 r h => by
  obtain ⟨r', hr, rfl⟩ := Option.map_eq_some_iff.1 h
  exact w_ref34_Accept N q0 q1 r' hr) (Session.decA_le) (Reply.decA_le)


noncomputable def G_ref34_SameSubmissions (N d f : Nat) : Option FnS := glist [(25, 25, fs_ref34_SameSubmission N)] d f
attribute [go_sem] G_ref34_SameSubmissions
theorem w_ref34_SameSubmissions (N : Nat) (a0 : (List Submission)) (a1 : (List Submission)) (r : Bool) (h : ref34_SameSubmissions N a0 a1 = some r) : Con Try.prog 33 [] true [.sl false none 5 none (a0.map Submission.row), .sl false none 5 none (a1.map Submission.row)] (.val (.bool r)) := by
  refine fun_ok4 (G := (G_ref34_SameSubmissions N)) Try.func33 rfl (by decide) (by kernel_rfl) (gc 25 (fs_ref34_SameSubmission_ok N) gn) [] mix (Nat.le_of_ble_eq_true rfl) ?_
  simp only [Try.f33]
  unfold ref34_SameSubmissions at h
  refine Wk_seq (Wk_regionZ fun Z hZ => ?_)
  simp only [go_sem, seval]
  refine hZ _ (pp (Wk_seq (Wk_seq (Wk_regionZ fun Z hZ => ?_))))
  simp only [go_sem, seval]
  refine hZ _ (pp (Wk_cond_ndec rfl (fun hc1 => ?_) (fun hc1 => ?_)))
  · have hc1d := decide_eq_false hc1
    rw [if_neg hc1] at h
    refine Wk_seq (Wk_regionZ fun Z hZ => ?_)
    simp only [go_sem, seval, hc1d]
    refine hZ _ (pp (Wk_ret (pp ?_)))
    cases h
    simp only [go_sem, seval]
    exact ⟨_, rfl, RokI.h, PureI.h⟩
  have hc1d := decide_eq_true hc1
  rw [if_pos hc1] at h
  refine Wk_skip (pp (Wk_seq (Wk_seq (Wk_regionZ fun Z hZ => ?_))))
  simp only [go_sem, seval, hc1d]
  refine hZ _ (pp (Wk_block (Wk_real fun hreal3 => ?_)))
  have hl2 := hreal3.lenT 0 (by decide) (by simp only [go_sem, seval]; rfl)
  rw [List.length_map] at hl2
  refine Wk_range (fun (v3 : Nat) (b : Unit) => ⟨tab 27 (updT (updT (updT deadT 0 (.sl false none 5 none (a0.map Submission.row))) 1 (.sl false none 5 none (a1.map Submission.row))) 5 (.val (.int .i64 ((v3 : Nat) : Int)))), RZ⟩) () h ?_ ?_
  · refine weak_roots ?_ ?_ <;> repeat' first | exact xn | exact rn | refine xc ?_ ?_ | refine rc ?_ ?_ ?_ | rfl
  rintro v3 ⟨⟩ hi4 h -
  rcases (drop_cases a0 v3 hi4).symm with ⟨hi4', _, hd7⟩ | ⟨x6, hi4', hx5, hd7⟩
  · rw [hd7] at h
    simp only [ref34_SameSubmissions_L1] at h
    refine Wk_seq (Wk_seq (Wk_regionZ fun Z hZ => ?_))
    simp only [go_sem, seval, hi4']
    refine hZ _ (pp ?_)
    try simp only [Int.ofNat_lt, hi4', if_true, if_false] at h
    refine Wk_cond_f rfl (Wk_exit (pp (Wk_seq (Wk_regionZ fun Z hZ => ?_))))
    simp only [go_sem, seval]
    refine hZ _ (pp (Wk_ret (pp ?_)))
    cases h
    simp only [go_sem, seval]
    exact ⟨_, rfl, RokI.h, PureI.h⟩
  rw [hd7] at h
  simp only [ref34_SameSubmissions_L1] at h
  have hw6 := wrap_succ hi4' hl2
  refine Wk_seq (Wk_seq (Wk_regionZ fun Z hZ => ?_))
  simp only [go_sem, seval, hi4']
  refine hZ _ (pp ?_)
  try simp only [Int.ofNat_lt, hi4', if_true, if_false] at h
  refine Wk_cond_t rfl (Wk_skip (pp (Wk_seq (Wk_block (Wk_seq ?_)))))
  try rw [gx_nat hx5] at h
  obtain ⟨x1, hb8, hx9, h⟩ := gx_some h
  try simp only [Int.toNat_natCast] at hx9
  try simp only [Int.ofNat_lt, Int.natCast_nonneg, true_and] at hb8
  obtain ⟨r2, hr10, h⟩ := Option.bind_eq_some_iff.1 h
  refine Wk_regionD fun Z hZ => ?_
  simp only [go_sem, seval, hx5, hi4', hb8, hx9, hr10]
  repeat with_reducible refine and_bar (by kernel_rfl) ?_
  refine hZ _ (by kernel_rfl) (pp (Wk_cond_nbool rfl (fun hc11 => ?_) (fun hc11 => ?_)))
  · rw [if_neg (ne_true_of_eq_false hc11)] at h
    refine Wk_seq (Wk_regionZ fun Z hZ => ?_)
    simp only [go_sem, seval, hc11]
    refine hZ _ (pp (Wk_ret (pp ?_)))
    cases h
    simp only [go_sem, seval]
    exact ⟨_, rfl, RokI.h, PureI.h⟩
  rw [if_pos hc11] at h
  refine Wk_skip (pp (Wk_regionZ fun Z hZ => ?_))
  simp only [go_sem, seval, hw6, hc11]
  refine hZ _ (pp ?_)
  first | refine ⟨(), ?_, h⟩ | refine ⟨hi4', (), ?_, h⟩
  refine weak_roots ?_ ?_ <;> repeat' first | exact xn | exact rn | refine xc ?_ ?_ | refine rc ?_ ?_ ?_ | rfl
def fs_ref34_SameSubmissions (N : Nat) : FnS := ⟨[], true, fn2 (decL 5 Submission.dec) (decL 5 Submission.dec) fun q0 q1 => (ref34_SameSubmissions N q0 q1).map fun r => .val (.bool r), false⟩
attribute [go_sem] fs_ref34_SameSubmissions
theorem fs_ref34_SameSubmissions_ok (N : Nat) : FSOk Try.prog 33 (fs_ref34_SameSubmissions N) := ok2 (fun q0 q1 r h => by
  obtain ⟨r', hr, rfl⟩ := Option.map_eq_some_iff.1 h
  exact w_ref34_SameSubmissions N q0 q1 r' hr) (fun h => decL_le Submission.dec_le h) (fun h => decL_le Submission.dec_le h)


noncomputable def G_ref34_Acknowledged (N d f : Nat) : Option FnS := glist [(4, 34, fs_ref34_Valid N), (7, 52, fs_ref34_acknowledged N)] d f
attribute [go_sem] G_ref34_Acknowledged
theorem w_ref34_Acknowledged (N : Nat) (a0 : Session) (r : Int) (h : ref34_Acknowledged N a0 = some r) : Con Try.prog 35 [] true [.agg (Session.row a0)] (.val (.int .i64 r)) := by
  refine fun_ok4 (G := (G_ref34_Acknowledged N)) Try.func35 rfl (by decide) (by kernel_rfl) (gc 4 (fs_ref34_Valid_ok N) (gc 7 (fs_ref34_acknowledged_ok N) gn)) [] mix (Nat.le_of_ble_eq_true rfl) ?_
  simp only [Try.f35]
  unfold ref34_Acknowledged at h
  refine Wk_seq (Wk_regionZ fun Z hZ => ?_)
  simp only [go_sem, seval]
  refine hZ _ (pp (Wk_seq (Wk_seq ?_)))
  obtain ⟨r1, hr1, h⟩ := Option.bind_eq_some_iff.1 h
  refine Wk_regionZ fun Z hZ => ?_
  simp only [go_sem, seval, hr1]
  refine hZ _ (pp (Wk_cond_nbool rfl (fun hc2 => ?_) (fun hc2 => ?_)))
  · rw [if_neg (ne_true_of_eq_false hc2)] at h
    refine Wk_seq (Wk_regionZ fun Z hZ => ?_)
    simp only [go_sem, seval, hc2]
    refine hZ _ (pp (Wk_ret (pp ?_)))
    cases h
    simp only [go_sem, seval]
    exact ⟨_, rfl, RokI.h, PureI.h⟩
  rw [if_pos hc2] at h
  refine Wk_skip (pp (Wk_seq ?_))
  obtain ⟨r2, hr3, h⟩ := Option.bind_eq_some_iff.1 h
  refine Wk_regionZ fun Z hZ => ?_
  simp only [go_sem, seval, hc2, hr3]
  refine hZ _ (pp (Wk_ret (pp ?_)))
  cases h
  simp only [go_sem, seval]
  exact ⟨_, rfl, RokI.h, PureI.h⟩
def fs_ref34_Acknowledged (N : Nat) : FnS := ⟨[], true, fn1 Session.decA fun q0 => (ref34_Acknowledged N q0).map fun r => .val (.int .i64 r), false⟩
attribute [go_sem] fs_ref34_Acknowledged
theorem fs_ref34_Acknowledged_ok (N : Nat) : FSOk Try.prog 35 (fs_ref34_Acknowledged N) := ok1 (fun q0 r h => by
  obtain ⟨r', hr, rfl⟩ := Option.map_eq_some_iff.1 h
  exact w_ref34_Acknowledged N q0 r' hr) (Session.decA_le)


noncomputable def G_law34_agree (N d f : Nat) : Option FnS := glist [(30, 21, fs_session_Submit N), (39, 30, fs_ref34_Submit N), (46, 19, fs_session_Resend N), (52, 31, fs_ref34_Resend N), (58, 22, fs_session_Accept N), (64, 32, fs_ref34_Accept N), (73, 10, fs_ref34_Same N), (79, 25, fs_ref34_SameSubmission N), (85, 10, fs_ref34_Same N), (91, 33, fs_ref34_SameSubmissions N), (100, 10, fs_ref34_Same N), (104, 17, fs_session_Valid N), (106, 34, fs_ref34_Valid N), (111, 18, fs_session_Acknowledged N), (113, 35, fs_ref34_Acknowledged N)] d f
attribute [go_sem] G_law34_agree
theorem w_law34_agree (N : Nat) (a0 : Session) (a1 : Int) (a2 : Bool) (a3 : (List ActorCall)) (a4 : Reply) (r : Bool) (h : law34_agree N a0 a1 a2 a3 a4 = some r) : Con Try.prog 13 [] true [.agg (Session.row a0), .val (.int .i64 a1), .val (.bool a2), .sl false none 4 none (a3.map ActorCall.row), .agg (Reply.row a4)] (.val (.bool r)) := by
  refine fun_ok4 (G := (G_law34_agree N)) Try.func13 rfl (by decide) (by kernel_rfl) (gc 30 (fs_session_Submit_ok N) (gc 39 (fs_ref34_Submit_ok N) (gc 46 (fs_session_Resend_ok N) (gc 52 (fs_ref34_Resend_ok N) (gc 58 (fs_session_Accept_ok N) (gc 64 (fs_ref34_Accept_ok N) (gc 73 (fs_ref34_Same_ok N) (gc 79 (fs_ref34_SameSubmission_ok N) (gc 85 (fs_ref34_Same_ok N) (gc 91 (fs_ref34_SameSubmissions_ok N) (gc 100 (fs_ref34_Same_ok N) (gc 104 (fs_session_Valid_ok N) (gc 106 (fs_ref34_Valid_ok N) (gc 111 (fs_session_Acknowledged_ok N) (gc 113 (fs_ref34_Acknowledged_ok N) gn))))))))))))))) [] mix (Nat.le_of_ble_eq_true rfl) ?_
  simp only [Try.f13]
  unfold law34_agree at h
  refine Wk_seq (Wk_regionZ fun Z hZ => ?_)
  simp only [go_sem, seval]
  refine hZ _ (pp (Wk_seq ?_))
  obtain ⟨r1, hr1, h⟩ := Option.bind_eq_some_iff.1 h
  refine Wk_regionZ fun Z hZ => ?_
  simp only [go_sem, seval, hr1]
  refine hZ _ (pp (Wk_seq ?_))
  obtain ⟨r2, hr2, h⟩ := Option.bind_eq_some_iff.1 h
  refine Wk_regionZ fun Z hZ => ?_
  simp only [go_sem, seval, hr2]
  refine hZ _ (pp (Wk_seq ?_))
  obtain ⟨r3, hr3, h⟩ := Option.bind_eq_some_iff.1 h
  refine Wk_regionZ fun Z hZ => ?_
  simp only [go_sem, seval, hr3]
  refine hZ _ (pp (Wk_seq ?_))
  obtain ⟨r4, hr4, h⟩ := Option.bind_eq_some_iff.1 h
  refine Wk_regionZ fun Z hZ => ?_
  simp only [go_sem, seval, hr4]
  refine hZ _ (pp (Wk_seq ?_))
  obtain ⟨r5, hr5, h⟩ := Option.bind_eq_some_iff.1 h
  refine Wk_regionZ fun Z hZ => ?_
  simp only [go_sem, seval, hr5]
  refine hZ _ (pp (Wk_seq ?_))
  obtain ⟨r6, hr6, h⟩ := Option.bind_eq_some_iff.1 h
  refine Wk_regionZ fun Z hZ => ?_
  simp only [go_sem, seval, hr6]
  refine hZ _ (pp (Wk_seq ?_))
  apply Wk_join1 (fun (c17 : Bool) => ⟨tab 116 (updT (updT (updT (updT (updT (updT deadT 5 (.pref 5 [] 0 0)) 21 (.pref 21 [] 0 0)) 22 (.val (.bool r5.2))) 23 (.pref 23 [] 0 0)) 24 (.val (.bool r6.2))) 93 (.val (.bool c17))), (upd (upd (upd RZ 5 (.sl true none 3 (some 1) [Session.row a0])) 21 (.sl true none 3 (some 1) [Session.row r5.1])) 23 (.sl true none 3 (some 1) [Session.row r6.1]))⟩)
  · intro hJ7
    refine Wk_regionZ fun Z hZ => ?_
    simp only [go_sem, seval]
    refine RX_guard_ndec rfl (fun hc8 => ?_) (fun hc8 => ?_)
    · have hc8d := decide_eq_false hc8
      rw [if_neg hc8] at h
      simp only [go_sem, seval, hc8d]
      refine hZ _ (pp (hJ7 _ true ?_ h))
      refine weak_roots ?_ ?_ <;> repeat' first | exact xn | exact rn | refine xc ?_ ?_ | refine rc ?_ ?_ ?_ | rfl
    have hc8d := decide_eq_true hc8
    rw [if_pos hc8] at h
    obtain ⟨r18, hr9, h⟩ := Option.bind_eq_some_iff.1 h
    simp only [go_sem, seval, hc8d, hr9]
    refine RX_guard_nbool rfl (fun hc10 => ?_) (fun hc10 => ?_)
    · rw [if_neg (ne_true_of_eq_false hc10)] at h
      simp only [go_sem, seval, hc10]
      refine hZ _ (pp (hJ7 _ true ?_ h))
      refine weak_roots ?_ ?_ <;> repeat' first | exact xn | exact rn | refine xc ?_ ?_ | refine rc ?_ ?_ ?_ | rfl
    rw [if_pos hc10] at h
    obtain ⟨r19, hr11, h⟩ := Option.bind_eq_some_iff.1 h
    simp only [go_sem, seval, hc10, hr11]
    refine RX_guard_nbool rfl (fun hc12 => ?_) (fun hc12 => ?_)
    · rw [if_neg (ne_true_of_eq_false hc12)] at h
      simp only [go_sem, seval, hc12]
      refine hZ _ (pp (hJ7 _ true ?_ h))
      refine weak_roots ?_ ?_ <;> repeat' first | exact xn | exact rn | refine xc ?_ ?_ | refine rc ?_ ?_ ?_ | rfl
    rw [if_pos hc12] at h
    obtain ⟨r20, hr13, h⟩ := Option.bind_eq_some_iff.1 h
    simp only [go_sem, seval, hc12, hr13]
    refine RX_guard_nbool rfl (fun hc14 => ?_) (fun hc14 => ?_)
    · rw [if_neg (ne_true_of_eq_false hc14)] at h
      simp only [go_sem, seval, hc14]
      refine hZ _ (pp (hJ7 _ true ?_ h))
      refine weak_roots ?_ ?_ <;> repeat' first | exact xn | exact rn | refine xc ?_ ?_ | refine rc ?_ ?_ ?_ | rfl
    rw [if_pos hc14] at h
    obtain ⟨r21, hr15, h⟩ := Option.bind_eq_some_iff.1 h
    simp only [go_sem, seval, hc14, hr15]
    refine hZ _ (pp (hJ7 _ (!r21) ?_ h))
    refine weak_roots ?_ ?_ <;> repeat' first | exact xn | exact rn | refine xc ?_ ?_ | refine rc ?_ ?_ ?_ | rfl
  intro c17 h
  unfold law34_agree_J1 at h
  refine Wk_cond_bool rfl (fun hc16 => ?_) (fun hc16 => ?_)
  · rw [if_pos hc16] at h
    refine Wk_seq (Wk_regionZ fun Z hZ => ?_)
    simp only [go_sem, seval, hc16]
    refine hZ _ (pp (Wk_ret (pp ?_)))
    cases h
    simp only [go_sem, seval]
    exact ⟨_, rfl, RokI.h, PureI.h⟩
  rw [if_neg (ne_true_of_eq_false hc16)] at h
  refine Wk_skip (pp ?_)
  unfold law34_agree_J2 at h
  refine Wk_seq (Wk_regionD fun Z hZ => ?_)
  simp only [go_sem, seval, hc16]
  refine sw (RX_guard_dec rfl) (fun hc17 => ?_) (fun hc17 => ?_)
  · have hc17d := decide_eq_false hc17
    rw [if_neg hc17] at h
    simp only [go_sem, seval, hc17d]
    refine hZ _ (by kernel_rfl) (pp (Wk_ret (pp ?_)))
    cases h
    simp only [go_sem, seval]
    exact ⟨_, rfl, RokI.h, PureI.h⟩
  have hc17d := decide_eq_true hc17
  rw [if_pos hc17] at h
  obtain ⟨r22, hr18, h⟩ := Option.bind_eq_some_iff.1 h
  simp only [go_sem, seval, hc17d, hr18]
  repeat with_reducible refine and_bar (by kernel_rfl) ?_
  refine sw (RX_guard_bool rfl) (fun hc19 => ?_) (fun hc19 => ?_)
  · rw [if_neg (ne_true_of_eq_false hc19)] at h
    simp only [go_sem, seval, hc19]
    refine hZ _ (by kernel_rfl) (pp (Wk_ret (pp ?_)))
    cases h
    simp only [go_sem, seval]
    exact ⟨_, rfl, RokI.h, PureI.h⟩
  rw [if_pos hc19] at h
  obtain ⟨r23, hr20, h⟩ := Option.bind_eq_some_iff.1 h
  obtain ⟨r24, hr21, h⟩ := Option.bind_eq_some_iff.1 h
  simp only [go_sem, seval, hc19, hr20, hr21]
  repeat with_reducible refine and_bar (by kernel_rfl) ?_
  refine RX_guard_dec rfl (fun hc22 => ?_) (fun hc22 => ?_)
  · have hc22d := decide_eq_true hc22
    rw [if_pos hc22] at h
    obtain ⟨r25, hr23, h⟩ := Option.bind_eq_some_iff.1 h
    obtain ⟨r26, hr24, h⟩ := Option.bind_eq_some_iff.1 h
    simp only [go_sem, seval, hc22d, hr23, hr24]
    repeat with_reducible refine and_bar (by kernel_rfl) ?_
    refine hZ _ (by kernel_rfl) (pp (Wk_ret (pp ?_)))
    cases h
    simp only [go_sem, seval]
    exact ⟨_, rfl, RokI.h, PureI.h⟩
  have hc22d := decide_eq_false hc22
  rw [if_neg hc22] at h
  simp only [go_sem, seval, hc22d]
  refine hZ _ (by kernel_rfl) (pp (Wk_ret (pp ?_)))
  cases h
  simp only [go_sem, seval]
  exact ⟨_, rfl, RokI.h, PureI.h⟩
def fs_law34_agree (N : Nat) : FnS := ⟨[], true, fn5 Session.decA (decI .i64) decB (decL 4 ActorCall.dec) Reply.decA fun q0 q1 q2 q3 q4 => (law34_agree N q0 q1 q2 q3 q4).map fun r => .val (.bool r), false⟩
attribute [go_sem] fs_law34_agree
theorem fs_law34_agree_ok (N : Nat) : FSOk Try.prog 13 (fs_law34_agree N) := ok5 (fun q0 q1 q2 q3 q4 r h => by
  obtain ⟨r', hr, rfl⟩ := Option.map_eq_some_iff.1 h
  exact w_law34_agree N q0 q1 q2 q3 q4 r' hr) (Session.decA_le) (decI_le) (decB_le) (fun h => decL_le ActorCall.dec_le h) (Reply.decA_le)


noncomputable def G_law34_SessionAny (N d f : Nat) : Option FnS := glist [(19, 7, fs_law34_awake N), (38, 8, fs_session_New N), (43, 9, fs_ref34_New N), (52, 10, fs_ref34_Same N), (57, 11, fs_session_ValidSubmission N), (59, 12, fs_ref34_ValidSubmission N), (67, 13, fs_law34_agree N)] d f
attribute [go_sem] G_law34_SessionAny
theorem w_law34_SessionAny (N : Nat) (a0 : Session) (a1 : ByteArray) (a2 : Int) (a3 : Bool) (a4 : (List ActorCall)) (a5 : Reply) (a6 : Submission) (r : Bool) (h : law34_SessionAny N a0 a1 a2 a3 a4 a5 a6 = some r) : Con Try.prog 3 [] true [.agg (Session.row a0), .val (.string a1), .val (.int .i64 a2), .val (.bool a3), .sl false none 4 none (a4.map ActorCall.row), .agg (Reply.row a5), .agg (Submission.row a6)] (.val (.bool r)) := by
  refine fun_ok4 (G := (G_law34_SessionAny N)) Try.func3 rfl (by decide) (by kernel_rfl) (gc 19 (fs_law34_awake_ok N) (gc 38 (fs_session_New_ok N) (gc 43 (fs_ref34_New_ok N) (gc 52 (fs_ref34_Same_ok N) (gc 57 (fs_session_ValidSubmission_ok N) (gc 59 (fs_ref34_ValidSubmission_ok N) (gc 67 (fs_law34_agree_ok N) gn))))))) [] mix (Nat.le_of_ble_eq_true rfl) ?_
  simp only [Try.f3]
  unfold law34_SessionAny at h
  refine Wk_seq (Wk_regionZ fun Z hZ => ?_)
  simp only [go_sem, seval]
  refine hZ _ (pp (Wk_seq (Wk_seq ?_)))
  obtain ⟨r1, hr1, h⟩ := Option.bind_eq_some_iff.1 h
  refine Wk_regionZ fun Z hZ => ?_
  simp only [go_sem, seval, hr1]
  refine hZ _ (pp (Wk_cond_nbool rfl (fun hc2 => ?_) (fun hc2 => ?_)))
  · rw [if_neg (ne_true_of_eq_false hc2)] at h
    refine Wk_seq (Wk_regionZ fun Z hZ => ?_)
    simp only [go_sem, seval, hc2]
    refine hZ _ (pp (Wk_ret (pp ?_)))
    cases h
    simp only [go_sem, seval]
    exact ⟨_, rfl, RokI.h, PureI.h⟩
  rw [if_pos hc2] at h
  refine Wk_skip (pp (Wk_seq ?_))
  apply Wk_join1 (fun (c4 : Bool) => ⟨tab 68 (updT (updT (updT (updT (updT (updT (updT (updT deadT 1 (.val (.string a1))) 2 (.val (.int .i64 a2))) 3 (.val (.bool a3))) 4 (.sl false none 4 none (a4.map ActorCall.row))) 7 (.pref 7 [] 0 0)) 12 (.pref 12 [] 0 0)) 13 (.pref 13 [] 0 0)) 35 (.val (.bool c4))), (upd (upd (upd RZ 7 (.sl true none 3 (some 1) [Session.row a0])) 12 (.sl true none 9 (some 1) [Reply.row a5])) 13 (.sl true none 5 (some 1) [Submission.row a6]))⟩)
  · intro hJ3
    refine Wk_regionZ fun Z hZ => ?_
    simp only [go_sem, seval, hc2]
    refine RX_guard_dec rfl (fun hc4 => ?_) (fun hc4 => ?_)
    · have hc4d := decide_eq_true hc4
      rw [if_pos hc4] at h
      simp only [go_sem, seval, hc4d]
      refine hZ _ (pp (hJ3 _ true ?_ h))
      refine weak_roots ?_ ?_ <;> repeat' first | exact xn | exact rn | refine xc ?_ ?_ | refine rc ?_ ?_ ?_ | rfl
    have hc4d := decide_eq_false hc4
    rw [if_neg hc4] at h
    simp only [go_sem, seval, hc4d]
    refine RX_guard_dec rfl (fun hc5 => ?_) (fun hc5 => ?_)
    · have hc5d := decide_eq_true hc5
      rw [if_pos hc5] at h
      simp only [go_sem, seval, hc5d]
      refine hZ _ (pp (hJ3 _ true ?_ h))
      refine weak_roots ?_ ?_ <;> repeat' first | exact xn | exact rn | refine xc ?_ ?_ | refine rc ?_ ?_ ?_ | rfl
    have hc5d := decide_eq_false hc5
    rw [if_neg hc5] at h
    simp only [go_sem, seval, hc5d]
    refine hZ _ (pp (hJ3 _ (decide (10 < ((a6.Calls.length : Nat) : Int))) ?_ h))
    refine weak_roots ?_ ?_ <;> repeat' first | exact xn | exact rn | refine xc ?_ ?_ | refine rc ?_ ?_ ?_ | rfl
  intro c4 h
  unfold law34_SessionAny_J1 at h
  refine Wk_cond_bool rfl (fun hc6 => ?_) (fun hc6 => ?_)
  · rw [if_pos hc6] at h
    refine Wk_seq (Wk_regionZ fun Z hZ => ?_)
    simp only [go_sem, seval, hc6]
    refine hZ _ (pp (Wk_ret (pp ?_)))
    cases h
    simp only [go_sem, seval]
    exact ⟨_, rfl, RokI.h, PureI.h⟩
  rw [if_neg (ne_true_of_eq_false hc6)] at h
  refine Wk_skip (pp ?_)
  unfold law34_SessionAny_J4 at h
  refine Wk_seq ?_
  obtain ⟨r5, hr7, h⟩ := Option.bind_eq_some_iff.1 h
  refine Wk_regionZ fun Z hZ => ?_
  simp only [go_sem, seval, hc6, hr7]
  refine hZ _ (pp (Wk_seq ?_))
  obtain ⟨r6, hr8, h⟩ := Option.bind_eq_some_iff.1 h
  refine Wk_regionZ fun Z hZ => ?_
  simp only [go_sem, seval, hr8]
  refine hZ _ (pp (Wk_seq ?_))
  apply Wk_join1 (fun (c15 : Bool) => ⟨tab 68 (updT (updT (updT (updT (updT (updT deadT 2 (.val (.int .i64 a2))) 3 (.val (.bool a3))) 4 (.sl false none 4 none (a4.map ActorCall.row))) 7 (.pref 7 [] 0 0)) 12 (.pref 12 [] 0 0)) 61 (.val (.bool c15))), (upd (upd RZ 7 (.sl true none 3 (some 1) [Session.row a0])) 12 (.sl true none 9 (some 1) [Reply.row a5]))⟩)
  · intro hJ9
    refine Wk_regionD fun Z hZ => ?_
    simp only [go_sem, seval]
    refine RX_guard_ndec rfl (fun hc10 => ?_) (fun hc10 => ?_)
    · have hc10d := decide_eq_false hc10
      rw [if_neg hc10] at h
      simp only [go_sem, seval, hc10d]
      refine hZ _ (by kernel_rfl) (pp (hJ9 _ true ?_ h))
      refine weak_roots ?_ ?_ <;> repeat' first | exact xn | exact rn | refine xc ?_ ?_ | refine rc ?_ ?_ ?_ | rfl
    have hc10d := decide_eq_true hc10
    rw [if_pos hc10] at h
    obtain ⟨r16, hr11, h⟩ := Option.bind_eq_some_iff.1 h
    simp only [go_sem, seval, hc10d, hr11]
    repeat with_reducible refine and_bar (by kernel_rfl) ?_
    refine RX_guard_nbool rfl (fun hc12 => ?_) (fun hc12 => ?_)
    · rw [if_neg (ne_true_of_eq_false hc12)] at h
      simp only [go_sem, seval, hc12]
      refine hZ _ (by kernel_rfl) (pp (hJ9 _ true ?_ h))
      refine weak_roots ?_ ?_ <;> repeat' first | exact xn | exact rn | refine xc ?_ ?_ | refine rc ?_ ?_ ?_ | rfl
    rw [if_pos hc12] at h
    obtain ⟨r17, hr13, h⟩ := Option.bind_eq_some_iff.1 h
    obtain ⟨r18, hr14, h⟩ := Option.bind_eq_some_iff.1 h
    simp only [go_sem, seval, hc12, hr13, hr14]
    repeat with_reducible refine and_bar (by kernel_rfl) ?_
    refine hZ _ (by kernel_rfl) (pp (hJ9 _ (!decide (r17 = r18)) ?_ h))
    refine weak_roots ?_ ?_ <;> repeat' first | exact xn | exact rn | refine xc ?_ ?_ | refine rc ?_ ?_ ?_ | rfl
  intro c15 h
  unfold law34_SessionAny_J2 at h
  refine Wk_cond_bool rfl (fun hc15 => ?_) (fun hc15 => ?_)
  · rw [if_pos hc15] at h
    refine Wk_seq (Wk_regionZ fun Z hZ => ?_)
    simp only [go_sem, seval, hc15]
    refine hZ _ (pp (Wk_ret (pp ?_)))
    cases h
    simp only [go_sem, seval]
    exact ⟨_, rfl, RokI.h, PureI.h⟩
  rw [if_neg (ne_true_of_eq_false hc15)] at h
  refine Wk_skip (pp ?_)
  unfold law34_SessionAny_J3 at h
  refine Wk_seq ?_
  obtain ⟨r19, hr16, h⟩ := Option.bind_eq_some_iff.1 h
  refine Wk_regionZ fun Z hZ => ?_
  simp only [go_sem, seval, hc15, hr16]
  refine hZ _ (pp (Wk_ret (pp ?_)))
  cases h
  simp only [go_sem, seval]
  exact ⟨_, rfl, RokI.h, PureI.h⟩
def fs_law34_SessionAny (N : Nat) : FnS := ⟨[], true, fn7 Session.decA decS (decI .i64) decB (decL 4 ActorCall.dec) Reply.decA Submission.decA fun q0 q1 q2 q3 q4 q5 q6 => (law34_SessionAny N q0 q1 q2 q3 q4 q5 q6).map fun r => .val (.bool r), false⟩
attribute [go_sem] fs_law34_SessionAny
theorem fs_law34_SessionAny_ok (N : Nat) : FSOk Try.prog 3 (fs_law34_SessionAny N) := ok7 (fun q0 q1 q2 q3 q4 q5 q6 r h => by
  obtain ⟨r', hr, rfl⟩ := Option.map_eq_some_iff.1 h
  exact w_law34_SessionAny N q0 q1 q2 q3 q4 q5 q6 r' hr) (Session.decA_le) (decS_le) (decI_le) (decB_le) (fun h => decL_le ActorCall.dec_le h) (Reply.decA_le) (Submission.decA_le)

end Go.Proofs.Ythgcdhclommkcaa
