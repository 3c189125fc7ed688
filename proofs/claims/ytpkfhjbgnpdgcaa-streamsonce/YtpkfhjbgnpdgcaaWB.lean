/- Each Go function computes its model: proofs laid by a program of ours. -/
import Derived.Test.YtpkfhjbgnpdgcaaB
import Derived.Test.YtpkfhjbgnpdgcaaWA
section
set_option linter.unusedSimpArgs false
set_option linter.unusedVariables false
set_option maxRecDepth 100000
namespace Go.Proofs.Ytpkfhjbgnpdgcaa
open Go Go.Proofs Go.Abs
noncomputable def E_streams_Ack (N : Nat) : Env := { T := tiOf Try.prog, G := fun d f => if d = 13 ∧ f = 19 then some (fs_streams_Valid N) else if d = 20 ∧ f = 30 then some (fs_streams_find N) else if d = 48 ∧ f = 17 then some (fs_streams_End N) else if d = 52 ∧ f = 28 then some (fso_streams_clone N) else none, F := fun d => none }
theorem E_streams_Ack_F (N : Nat) (d : Nat) : (E_streams_Ack N).F d = none := rfl
theorem E_streams_Ack_T (N : Nat) : (E_streams_Ack N).T = tiOf Try.prog := rfl
theorem E_streams_Ack_G0 (N : Nat) : (E_streams_Ack N).G 13 19 = some (fs_streams_Valid N) := rfl
theorem E_streams_Ack_G1 (N : Nat) : (E_streams_Ack N).G 20 30 = some (fs_streams_find N) := rfl
theorem E_streams_Ack_G2 (N : Nat) : (E_streams_Ack N).G 48 17 = some (fs_streams_End N) := rfl
theorem E_streams_Ack_G3 (N : Nat) : (E_streams_Ack N).G 52 28 = some (fso_streams_clone N) := rfl
theorem E_streams_Ack_ok (N : Nat) : GOk Try.prog { T := tiOf Try.prog, G := (E_streams_Ack N).G } := by
  intro d f fs hfs
  simp only [E_streams_Ack] at hfs
  by_cases hc : d = 13 ∧ f = 19
  · rw [if_pos hc] at hfs; obtain ⟨rfl, rfl⟩ := hc; obtain rfl := Option.some.inj hfs; exact fs_streams_Valid_ok N
  rw [if_neg hc] at hfs
  by_cases hc : d = 20 ∧ f = 30
  · rw [if_pos hc] at hfs; obtain ⟨rfl, rfl⟩ := hc; obtain rfl := Option.some.inj hfs; exact fs_streams_find_ok N
  rw [if_neg hc] at hfs
  by_cases hc : d = 48 ∧ f = 17
  · rw [if_pos hc] at hfs; obtain ⟨rfl, rfl⟩ := hc; obtain rfl := Option.some.inj hfs; exact fs_streams_End_ok N
  rw [if_neg hc] at hfs
  by_cases hc : d = 52 ∧ f = 28
  · rw [if_pos hc] at hfs; obtain ⟨rfl, rfl⟩ := hc; obtain rfl := Option.some.inj hfs; exact fso_streams_clone_ok N
  rw [if_neg hc] at hfs
  cases hfs
theorem fo_streams_Ack : FunOk Try.prog 16 Try.f16 Try.f16.body.get! := ⟨Try.func16, rfl, by decide, by kernel_rfl⟩
attribute [go_sem] E_streams_Ack_T E_streams_Ack_F E_streams_Ack_G0 E_streams_Ack_G1 E_streams_Ack_G2 E_streams_Ack_G3
set_option maxHeartbeats 4000000 in
theorem w_streams_Ack (N : Nat) (a0 : Topic) (a1 : Ref) (a2 : ByteArray) (a3 : Int) (r : Topic × Int) (h : streams_Ack N a0 a1 a2 a3 = some r) : Con Try.prog 16 [] true [.agg [.val (.string a0.Name), .val (.int .i64 a0.First), .sl false none 1 none (a0.Events.map (rowI .i64)), .sl false none 4 none (a0.Subs.map Sub.row)], .agg [.val (.string a1.Type_), .val (.string a1.Key)], .val (.string a2), .val (.int .i64 a3)] (.tup [.agg [.val (.string r.1.Name), .val (.int .i64 r.1.First), .sl true none 1 none (r.1.Events.map (rowI .i64)), .sl true none 4 none (r.1.Subs.map Sub.row)], .val (.int .i64 r.2)]) := by
  refine fun_ok3 (E := E_streams_Ack N) (tiOf_ok Try.prog (E_streams_Ack N).G) (E_streams_Ack_ok N) mix fo_streams_Ack (Nat.le_of_ble_eq_true rfl) ?_
  intro _
  rw [entry_tab (by simp)]
  rw [show entryF [] [.agg [.val (.string a0.Name), .val (.int .i64 a0.First), .sl false none 1 none (a0.Events.map (rowI .i64)), .sl false none 4 none (a0.Subs.map Sub.row)], .agg [.val (.string a1.Type_), .val (.string a1.Key)], .val (.string a2), .val (.int .i64 a3)] = (updT (updT (updT (updT deadT 0 (.agg [.val (.string a0.Name), .val (.int .i64 a0.First), .sl false none 1 none (a0.Events.map (rowI .i64)), .sl false none 4 none (a0.Subs.map Sub.row)])) 1 (.agg [.val (.string a1.Type_), .val (.string a1.Key)])) 2 (.val (.string a2))) 3 (.val (.int .i64 a3))) from by funext t; match t with | 0 => rfl | 1 => rfl | 2 => rfl | 3 => rfl | t + 4 => rfl]
  apply Wk_start
  simp only [Try.f16, Option.get!, R0_RZ]
  unfold streams_Ack at h
  refine Wk_seq ?_
  refine Wk_regionZ fun Z hZ => ?_
  simp (config := { maxSteps := 4000000 }) only [go_sem, Nat.reduceLT, Nat.reduceEqDiff, Nat.reduceAdd, Nat.reduceBEq, Nat.reduceMul, Nat.reduceSub, reduceIte, Nat.reduceLeDiff, reduceCtorEq, Int.reduceNeg, Int.reduceToNat, Int.reduceEq, Int.reduceNe, Int.reduceLT, Int.reduceLE]
  refine hZ _ ?_
  repeat (with_reducible first | refine Pop.pop ?_ | refine ap_nil_i ?_ | refine ap_lp_i ?_ | refine ap_bl_next (by decide) ?_)
  refine Wk_seq ?_
  refine Wk_seq ?_
  obtain ⟨r1, hr1, h⟩ := Option.bind_eq_some_iff.1 h
  refine Wk_regionZ fun Z hZ => ?_
  simp (config := { maxSteps := 4000000 }) only [go_sem, Nat.reduceLT, Nat.reduceEqDiff, Nat.reduceAdd, Nat.reduceBEq, Nat.reduceMul, Nat.reduceSub, reduceIte, Nat.reduceLeDiff, reduceCtorEq, Int.reduceNeg, Int.reduceToNat, Int.reduceEq, Int.reduceNe, Int.reduceLT, Int.reduceLE, hr1]
  refine hZ _ ?_
  repeat (with_reducible first | refine Pop.pop ?_ | refine ap_nil_i ?_ | refine ap_lp_i ?_ | refine ap_bl_next (by decide) ?_)
  refine Wk_cond_nbool rfl (fun hc2 => ?_) (fun hc2 => ?_)
  · first | rw [if_neg (ne_true_of_eq_false hc2)] at h | simp only [hc2, Bool.or_false, Bool.or_true, Bool.false_or, Bool.true_or, Bool.and_true, Bool.true_and, Bool.and_false, Bool.false_and, Bool.not_true, Bool.not_false, Bool.false_eq_true, if_true, if_false] at h
    refine Wk_seq ?_
    refine Wk_regionZ fun Z hZ => ?_
    simp (config := { maxSteps := 4000000 }) only [go_sem, Nat.reduceLT, Nat.reduceEqDiff, Nat.reduceAdd, Nat.reduceBEq, Nat.reduceMul, Nat.reduceSub, reduceIte, Nat.reduceLeDiff, reduceCtorEq, Int.reduceNeg, Int.reduceToNat, Int.reduceEq, Int.reduceNe, Int.reduceLT, Int.reduceLE, hr1, hc2]
    refine hZ _ ?_
    repeat (with_reducible first | refine Pop.pop ?_ | refine ap_nil_i ?_ | refine ap_lp_i ?_ | refine ap_bl_next (by decide) ?_)
    refine Wk_ret ?_
    repeat (with_reducible first | refine Pop.pop ?_ | refine ap_nil_i ?_ | refine ap_lp_i ?_ | refine ap_bl_next (by decide) ?_)
    simp (config := { maxSteps := 4000000 }) only [go_sem, Nat.reduceLT, Nat.reduceEqDiff, Nat.reduceAdd, Nat.reduceBEq, Nat.reduceMul, Nat.reduceSub, reduceIte, Nat.reduceLeDiff, reduceCtorEq, Int.reduceNeg, Int.reduceToNat, Int.reduceEq, Int.reduceNe, Int.reduceLT, Int.reduceLE, hr1, hc2, FinW_ret, List.length_set, List.take_length]
    obtain rfl := Option.some.inj h
    exact ⟨_, rfl, (by repeat' (first | exact ROk.refl _ | exact ROk.nil _ | ((refine ROk.of _ ?_ ?_); (focus ((repeat' (first | exact Le.refl _ | exact LeL.nil | exact Le.nils | exact LeLL.refl _ | refine LeLL.mapAppend ?_ ?_ | refine LeLL.cons ?_ ?_ | refine Le.sl ?_ | refine Le.tup ?_ | refine Le.agg ?_ | refine LeL.cons ?_ ?_)); done)); (focus ((repeat' (first | exact NoOwn.val _ | exact NoOwn.sl _ _ _ _ | refine NoOwn.tup ?_ | refine NoOwn.agg ?_ | exact noOwn_nil | refine noOwn_cons ?_ ?_)); done))) | ((refine ROk.own ?_ ?_); (focus ((repeat' (first | exact Le.refl _ | exact LeL.nil | exact Le.nils | exact LeLL.refl _ | refine LeLL.mapAppend ?_ ?_ | refine LeLL.cons ?_ ?_ | refine Le.sl ?_ | refine Le.tup ?_ | refine Le.agg ?_ | refine LeL.cons ?_ ?_)); done)); (focus ((first | exact RowOk.noOwn (rowI_ok .i64) _ | exact RowOk.noOwn Sub.row_ok _); done))) | refine ROk.agg rfl ?_ | refine ROk.tup rfl ?_ | exact rok_nil | refine rok_cons ?_ ?_)), (by (repeat' (first | exact PureC.val _ | refine PureC.tup ?_ | refine PureC.agg ?_ | exact pure_nil | refine pure_cons ?_ ?_ | refine PureC.sl ?_ | exact pure_rows (pure_rowI .i64) _ | exact pure_rows Sub.row_pure _ |  exact pure_rows_nil | refine pure_rows_append ?_ ?_ | refine pure_rows_cons ?_ ?_)))⟩
  · first | rw [if_pos hc2] at h | simp only [hc2, Bool.or_false, Bool.or_true, Bool.false_or, Bool.true_or, Bool.and_true, Bool.true_and, Bool.and_false, Bool.false_and, Bool.not_true, Bool.not_false, Bool.false_eq_true, if_true, if_false] at h
    refine Wk_skip ?_
    repeat (with_reducible first | refine Pop.pop ?_ | refine ap_nil_i ?_ | refine ap_lp_i ?_ | refine ap_bl_next (by decide) ?_)
    refine Wk_seq ?_
    obtain ⟨r2, hr3, h⟩ := Option.bind_eq_some_iff.1 h
    refine Wk_regionZ fun Z hZ => ?_
    simp (config := { maxSteps := 4000000 }) only [go_sem, Nat.reduceLT, Nat.reduceEqDiff, Nat.reduceAdd, Nat.reduceBEq, Nat.reduceMul, Nat.reduceSub, reduceIte, Nat.reduceLeDiff, reduceCtorEq, Int.reduceNeg, Int.reduceToNat, Int.reduceEq, Int.reduceNe, Int.reduceLT, Int.reduceLE, hr1, hc2, hr3]
    refine hZ _ ?_
    repeat (with_reducible first | refine Pop.pop ?_ | refine ap_nil_i ?_ | refine ap_lp_i ?_ | refine ap_bl_next (by decide) ?_)
    refine Wk_seq ?_
    refine Wk_block ?_
    refine Wk_seq ?_
    refine Wk_regionZ fun Z hZ => ?_
    simp (config := { maxSteps := 4000000 }) only [go_sem, Nat.reduceLT, Nat.reduceEqDiff, Nat.reduceAdd, Nat.reduceBEq, Nat.reduceMul, Nat.reduceSub, reduceIte, Nat.reduceLeDiff, reduceCtorEq, Int.reduceNeg, Int.reduceToNat, Int.reduceEq, Int.reduceNe, Int.reduceLT, Int.reduceLE, hr1, hc2, hr3]
    refine hZ _ ?_
    repeat (with_reducible first | refine Pop.pop ?_ | refine ap_nil_i ?_ | refine ap_lp_i ?_ | refine ap_bl_next (by decide) ?_)
    refine Wk_cond_nbool rfl (fun hc4 => ?_) (fun hc4 => ?_)
    · first | rw [if_neg (ne_true_of_eq_false hc4)] at h | simp only [hc4, hc2, Bool.or_false, Bool.or_true, Bool.false_or, Bool.true_or, Bool.and_true, Bool.true_and, Bool.and_false, Bool.false_and, Bool.not_true, Bool.not_false, Bool.false_eq_true, if_true, if_false] at h
      refine Wk_seq ?_
      refine Wk_regionZ fun Z hZ => ?_
      simp (config := { maxSteps := 4000000 }) only [go_sem, Nat.reduceLT, Nat.reduceEqDiff, Nat.reduceAdd, Nat.reduceBEq, Nat.reduceMul, Nat.reduceSub, reduceIte, Nat.reduceLeDiff, reduceCtorEq, Int.reduceNeg, Int.reduceToNat, Int.reduceEq, Int.reduceNe, Int.reduceLT, Int.reduceLE, hr1, hc2, hr3, hc4]
      refine hZ _ ?_
      repeat (with_reducible first | refine Pop.pop ?_ | refine ap_nil_i ?_ | refine ap_lp_i ?_ | refine ap_bl_next (by decide) ?_)
      refine Wk_ret ?_
      repeat (with_reducible first | refine Pop.pop ?_ | refine ap_nil_i ?_ | refine ap_lp_i ?_ | refine ap_bl_next (by decide) ?_)
      simp (config := { maxSteps := 4000000 }) only [go_sem, Nat.reduceLT, Nat.reduceEqDiff, Nat.reduceAdd, Nat.reduceBEq, Nat.reduceMul, Nat.reduceSub, reduceIte, Nat.reduceLeDiff, reduceCtorEq, Int.reduceNeg, Int.reduceToNat, Int.reduceEq, Int.reduceNe, Int.reduceLT, Int.reduceLE, hr1, hc2, hr3, hc4, FinW_ret, List.length_set, List.take_length]
      obtain rfl := Option.some.inj h
      exact ⟨_, rfl, (by repeat' (first | exact ROk.refl _ | exact ROk.nil _ | ((refine ROk.of _ ?_ ?_); (focus ((repeat' (first | exact Le.refl _ | exact LeL.nil | exact Le.nils | exact LeLL.refl _ | refine LeLL.mapAppend ?_ ?_ | refine LeLL.cons ?_ ?_ | refine Le.sl ?_ | refine Le.tup ?_ | refine Le.agg ?_ | refine LeL.cons ?_ ?_)); done)); (focus ((repeat' (first | exact NoOwn.val _ | exact NoOwn.sl _ _ _ _ | refine NoOwn.tup ?_ | refine NoOwn.agg ?_ | exact noOwn_nil | refine noOwn_cons ?_ ?_)); done))) | ((refine ROk.own ?_ ?_); (focus ((repeat' (first | exact Le.refl _ | exact LeL.nil | exact Le.nils | exact LeLL.refl _ | refine LeLL.mapAppend ?_ ?_ | refine LeLL.cons ?_ ?_ | refine Le.sl ?_ | refine Le.tup ?_ | refine Le.agg ?_ | refine LeL.cons ?_ ?_)); done)); (focus ((first | exact RowOk.noOwn (rowI_ok .i64) _ | exact RowOk.noOwn Sub.row_ok _); done))) | refine ROk.agg rfl ?_ | refine ROk.tup rfl ?_ | exact rok_nil | refine rok_cons ?_ ?_)), (by (repeat' (first | exact PureC.val _ | refine PureC.tup ?_ | refine PureC.agg ?_ | exact pure_nil | refine pure_cons ?_ ?_ | refine PureC.sl ?_ | exact pure_rows (pure_rowI .i64) _ | exact pure_rows Sub.row_pure _ |  exact pure_rows_nil | refine pure_rows_append ?_ ?_ | refine pure_rows_cons ?_ ?_)))⟩
    · first | rw [if_pos hc4] at h | simp only [hc4, hc2, Bool.or_false, Bool.or_true, Bool.false_or, Bool.true_or, Bool.and_true, Bool.true_and, Bool.and_false, Bool.false_and, Bool.not_true, Bool.not_false, Bool.false_eq_true, if_true, if_false] at h
      refine Wk_seq ?_
      obtain ⟨x7, hb5, hx6, h⟩ := gx_some h
      refine Wk_regionZ fun Z hZ => ?_
      simp (config := { maxSteps := 4000000 }) only [go_sem, Nat.reduceLT, Nat.reduceEqDiff, Nat.reduceAdd, Nat.reduceBEq, Nat.reduceMul, Nat.reduceSub, reduceIte, Nat.reduceLeDiff, reduceCtorEq, Int.reduceNeg, Int.reduceToNat, Int.reduceEq, Int.reduceNe, Int.reduceLT, Int.reduceLE, hr1, hc2, hr3, hc4, hb5, hx6]
      refine hZ _ ?_
      repeat (with_reducible first | refine Pop.pop ?_ | refine ap_nil_i ?_ | refine ap_lp_i ?_ | refine ap_bl_next (by decide) ?_)
      refine Wk_cond_dec rfl (fun hc7 => ?_) (fun hc7 => ?_)
      · have hc7d := decide_eq_true hc7
        first | rw [if_pos hc7] at h | rw [if_pos hc7d] at h | simp only [hc7d, Bool.not_true, Bool.not_false, Bool.false_eq_true, if_true, if_false] at h
        refine Wk_seq ?_
        refine Wk_regionZ fun Z hZ => ?_
        simp (config := { maxSteps := 4000000 }) only [go_sem, Nat.reduceLT, Nat.reduceEqDiff, Nat.reduceAdd, Nat.reduceBEq, Nat.reduceMul, Nat.reduceSub, reduceIte, Nat.reduceLeDiff, reduceCtorEq, Int.reduceNeg, Int.reduceToNat, Int.reduceEq, Int.reduceNe, Int.reduceLT, Int.reduceLE, hr1, hc2, hr3, hc4, hb5, hx6, hc7d]
        refine hZ _ ?_
        repeat (with_reducible first | refine Pop.pop ?_ | refine ap_nil_i ?_ | refine ap_lp_i ?_ | refine ap_bl_next (by decide) ?_)
        refine Wk_ret ?_
        repeat (with_reducible first | refine Pop.pop ?_ | refine ap_nil_i ?_ | refine ap_lp_i ?_ | refine ap_bl_next (by decide) ?_)
        simp (config := { maxSteps := 4000000 }) only [go_sem, Nat.reduceLT, Nat.reduceEqDiff, Nat.reduceAdd, Nat.reduceBEq, Nat.reduceMul, Nat.reduceSub, reduceIte, Nat.reduceLeDiff, reduceCtorEq, Int.reduceNeg, Int.reduceToNat, Int.reduceEq, Int.reduceNe, Int.reduceLT, Int.reduceLE, hr1, hc2, hr3, hc4, hb5, hx6, hc7d, FinW_ret, List.length_set, List.take_length]
        obtain rfl := Option.some.inj h
        exact ⟨_, rfl, (by repeat' (first | exact ROk.refl _ | exact ROk.nil _ | ((refine ROk.of _ ?_ ?_); (focus ((repeat' (first | exact Le.refl _ | exact LeL.nil | exact Le.nils | exact LeLL.refl _ | refine LeLL.mapAppend ?_ ?_ | refine LeLL.cons ?_ ?_ | refine Le.sl ?_ | refine Le.tup ?_ | refine Le.agg ?_ | refine LeL.cons ?_ ?_)); done)); (focus ((repeat' (first | exact NoOwn.val _ | exact NoOwn.sl _ _ _ _ | refine NoOwn.tup ?_ | refine NoOwn.agg ?_ | exact noOwn_nil | refine noOwn_cons ?_ ?_)); done))) | ((refine ROk.own ?_ ?_); (focus ((repeat' (first | exact Le.refl _ | exact LeL.nil | exact Le.nils | exact LeLL.refl _ | refine LeLL.mapAppend ?_ ?_ | refine LeLL.cons ?_ ?_ | refine Le.sl ?_ | refine Le.tup ?_ | refine Le.agg ?_ | refine LeL.cons ?_ ?_)); done)); (focus ((first | exact RowOk.noOwn (rowI_ok .i64) _ | exact RowOk.noOwn Sub.row_ok _); done))) | refine ROk.agg rfl ?_ | refine ROk.tup rfl ?_ | exact rok_nil | refine rok_cons ?_ ?_)), (by (repeat' (first | exact PureC.val _ | refine PureC.tup ?_ | refine PureC.agg ?_ | exact pure_nil | refine pure_cons ?_ ?_ | refine PureC.sl ?_ | exact pure_rows (pure_rowI .i64) _ | exact pure_rows Sub.row_pure _ |  exact pure_rows_nil | refine pure_rows_append ?_ ?_ | refine pure_rows_cons ?_ ?_)))⟩
      · have hc7d := decide_eq_false hc7
        first | rw [if_neg hc7] at h | rw [if_neg (ne_true_of_eq_false hc7d)] at h | simp only [hc7d, Bool.not_true, Bool.not_false, Bool.false_eq_true, if_true, if_false] at h
        apply Wk_join1 (fun (c9 : Bool) => ⟨tab 63 (updT (updT (updT (updT deadT 4 (.pref 4 [] 0 0)) 8 (.pref 8 [] 0 0)) 10 (.val (.int .i64 r2.1))) 37 (.val (.bool c9))), (upd (upd RZ 4 (.sl true none 4 (some 1) [[.val (.string a0.Name), .val (.int .i64 a0.First), .sl false none 1 none (a0.Events.map (rowI .i64)), .sl false none 4 none (a0.Subs.map Sub.row)]])) 8 (.sl true none 4 (some 1) [[.val (.string (⟨#[]⟩)), .val (.int .i64 0), .val (.slice none 0 0), .val (.slice none 0 0)]]))⟩)
        · intro hJ8
          refine Wk_seq ?_
          refine Wk_regionZ fun Z hZ => ?_
          simp (config := { maxSteps := 4000000 }) only [go_sem, Nat.reduceLT, Nat.reduceEqDiff, Nat.reduceAdd, Nat.reduceBEq, Nat.reduceMul, Nat.reduceSub, reduceIte, Nat.reduceLeDiff, reduceCtorEq, Int.reduceNeg, Int.reduceToNat, Int.reduceEq, Int.reduceNe, Int.reduceLT, Int.reduceLE, hr1, hc2, hr3, hc4, hb5, hx6, hc7d]
          refine hZ _ ?_
          repeat (with_reducible first | refine Pop.pop ?_ | refine ap_nil_i ?_ | refine ap_lp_i ?_ | refine ap_bl_next (by decide) ?_)
          refine Wk_cond_dec rfl (fun hc9 => ?_) (fun hc9 => ?_)
          · have hc9d := decide_eq_true hc9
            first | rw [if_pos hc9] at h | rw [if_pos hc9d] at h | simp only [hc9d, Bool.not_true, Bool.not_false, Bool.false_eq_true, if_true, if_false] at h
            refine Wk_skip ?_
            repeat (with_reducible first | refine Pop.pop ?_ | refine ap_nil_i ?_ | refine ap_lp_i ?_ | refine ap_bl_next (by decide) ?_)
            refine hJ8 _ true ?_ h
            refine weak_roots ?_ ?_
            · (repeat' (first | exact weakX_nil | refine weakX_cons ?_ ?_)) <;> (first | rfl | simp only [go_sem, Nat.reduceLT, Nat.reduceEqDiff, Nat.reduceAdd, Nat.reduceBEq, Nat.reduceMul, Nat.reduceSub, reduceIte, Nat.reduceLeDiff, reduceCtorEq, Int.reduceNeg, Int.reduceToNat, Int.reduceEq, Int.reduceNe, Int.reduceLT, Int.reduceLE, Bool.or_self, List.length_set, Int.natCast_zero, Int.cast_ofNat_Int, hr1, hc2, hr3, hc4, hb5, hx6, hc7d, hc9d])
            · (repeat' (first | exact weakR_nil | refine weakR_cons ?_ ?_ ?_)) <;> (first | rfl | simp only [go_sem, Nat.reduceLT, Nat.reduceEqDiff, Nat.reduceAdd, Nat.reduceBEq, Nat.reduceMul, Nat.reduceSub, reduceIte, Nat.reduceLeDiff, reduceCtorEq, Int.reduceNeg, Int.reduceToNat, Int.reduceEq, Int.reduceNe, Int.reduceLT, Int.reduceLE, Bool.or_self, List.length_set, Int.natCast_zero, Int.cast_ofNat_Int, hr1, hc2, hr3, hc4, hb5, hx6, hc7d, hc9d])
          · have hc9d := decide_eq_false hc9
            first | rw [if_neg hc9] at h | rw [if_neg (ne_true_of_eq_false hc9d)] at h | simp only [hc9d, Bool.not_true, Bool.not_false, Bool.false_eq_true, if_true, if_false] at h
            obtain ⟨r10, hr10, h⟩ := Option.bind_eq_some_iff.1 h
            refine Wk_regionZ fun Z hZ => ?_
            simp (config := { maxSteps := 4000000 }) only [go_sem, Nat.reduceLT, Nat.reduceEqDiff, Nat.reduceAdd, Nat.reduceBEq, Nat.reduceMul, Nat.reduceSub, reduceIte, Nat.reduceLeDiff, reduceCtorEq, Int.reduceNeg, Int.reduceToNat, Int.reduceEq, Int.reduceNe, Int.reduceLT, Int.reduceLE, hr1, hc2, hr3, hc4, hb5, hx6, hc7d, hc9d, hr10]
            refine hZ _ ?_
            repeat (with_reducible first | refine Pop.pop ?_ | refine ap_nil_i ?_ | refine ap_lp_i ?_ | refine ap_bl_next (by decide) ?_)
            refine hJ8 _ (decide (a3 = r10)) ?_ h
            refine weak_roots ?_ ?_
            · (repeat' (first | exact weakX_nil | refine weakX_cons ?_ ?_)) <;> (first | rfl | simp only [go_sem, Nat.reduceLT, Nat.reduceEqDiff, Nat.reduceAdd, Nat.reduceBEq, Nat.reduceMul, Nat.reduceSub, reduceIte, Nat.reduceLeDiff, reduceCtorEq, Int.reduceNeg, Int.reduceToNat, Int.reduceEq, Int.reduceNe, Int.reduceLT, Int.reduceLE, Bool.or_self, List.length_set, Int.natCast_zero, Int.cast_ofNat_Int, hr1, hc2, hr3, hc4, hb5, hx6, hc7d, hc9d, hr10])
            · (repeat' (first | exact weakR_nil | refine weakR_cons ?_ ?_ ?_)) <;> (first | rfl | simp only [go_sem, Nat.reduceLT, Nat.reduceEqDiff, Nat.reduceAdd, Nat.reduceBEq, Nat.reduceMul, Nat.reduceSub, reduceIte, Nat.reduceLeDiff, reduceCtorEq, Int.reduceNeg, Int.reduceToNat, Int.reduceEq, Int.reduceNe, Int.reduceLT, Int.reduceLE, Bool.or_self, List.length_set, Int.natCast_zero, Int.cast_ofNat_Int, hr1, hc2, hr3, hc4, hb5, hx6, hc7d, hc9d, hr10])
        · intro c9 h
          unfold streams_Ack_J1 at h
          refine Wk_cond_bool rfl (fun hc11 => ?_) (fun hc11 => ?_)
          · first | rw [if_pos hc11] at h | simp only [hc11, hc2, hc4, Bool.or_false, Bool.or_true, Bool.false_or, Bool.true_or, Bool.and_true, Bool.true_and, Bool.and_false, Bool.false_and, Bool.not_true, Bool.not_false, Bool.false_eq_true, if_true, if_false] at h
            refine Wk_seq ?_
            refine Wk_regionZ fun Z hZ => ?_
            simp (config := { maxSteps := 4000000 }) only [go_sem, Nat.reduceLT, Nat.reduceEqDiff, Nat.reduceAdd, Nat.reduceBEq, Nat.reduceMul, Nat.reduceSub, reduceIte, Nat.reduceLeDiff, reduceCtorEq, Int.reduceNeg, Int.reduceToNat, Int.reduceEq, Int.reduceNe, Int.reduceLT, Int.reduceLE, hr1, hc2, hr3, hc4, hb5, hx6, hc7d, hc11]
            refine hZ _ ?_
            repeat (with_reducible first | refine Pop.pop ?_ | refine ap_nil_i ?_ | refine ap_lp_i ?_ | refine ap_bl_next (by decide) ?_)
            refine Wk_ret ?_
            repeat (with_reducible first | refine Pop.pop ?_ | refine ap_nil_i ?_ | refine ap_lp_i ?_ | refine ap_bl_next (by decide) ?_)
            simp (config := { maxSteps := 4000000 }) only [go_sem, Nat.reduceLT, Nat.reduceEqDiff, Nat.reduceAdd, Nat.reduceBEq, Nat.reduceMul, Nat.reduceSub, reduceIte, Nat.reduceLeDiff, reduceCtorEq, Int.reduceNeg, Int.reduceToNat, Int.reduceEq, Int.reduceNe, Int.reduceLT, Int.reduceLE, hr1, hc2, hr3, hc4, hb5, hx6, hc7d, hc11, FinW_ret, List.length_set, List.take_length]
            obtain rfl := Option.some.inj h
            exact ⟨_, rfl, (by repeat' (first | exact ROk.refl _ | exact ROk.nil _ | ((refine ROk.of _ ?_ ?_); (focus ((repeat' (first | exact Le.refl _ | exact LeL.nil | exact Le.nils | exact LeLL.refl _ | refine LeLL.mapAppend ?_ ?_ | refine LeLL.cons ?_ ?_ | refine Le.sl ?_ | refine Le.tup ?_ | refine Le.agg ?_ | refine LeL.cons ?_ ?_)); done)); (focus ((repeat' (first | exact NoOwn.val _ | exact NoOwn.sl _ _ _ _ | refine NoOwn.tup ?_ | refine NoOwn.agg ?_ | exact noOwn_nil | refine noOwn_cons ?_ ?_)); done))) | ((refine ROk.own ?_ ?_); (focus ((repeat' (first | exact Le.refl _ | exact LeL.nil | exact Le.nils | exact LeLL.refl _ | refine LeLL.mapAppend ?_ ?_ | refine LeLL.cons ?_ ?_ | refine Le.sl ?_ | refine Le.tup ?_ | refine Le.agg ?_ | refine LeL.cons ?_ ?_)); done)); (focus ((first | exact RowOk.noOwn (rowI_ok .i64) _ | exact RowOk.noOwn Sub.row_ok _); done))) | refine ROk.agg rfl ?_ | refine ROk.tup rfl ?_ | exact rok_nil | refine rok_cons ?_ ?_)), (by (repeat' (first | exact PureC.val _ | refine PureC.tup ?_ | refine PureC.agg ?_ | exact pure_nil | refine pure_cons ?_ ?_ | refine PureC.sl ?_ | exact pure_rows (pure_rowI .i64) _ | exact pure_rows Sub.row_pure _ |  exact pure_rows_nil | refine pure_rows_append ?_ ?_ | refine pure_rows_cons ?_ ?_)))⟩
          · first | rw [if_neg (ne_true_of_eq_false hc11)] at h | simp only [hc11, hc2, hc4, Bool.or_false, Bool.or_true, Bool.false_or, Bool.true_or, Bool.and_true, Bool.true_and, Bool.and_false, Bool.false_and, Bool.not_true, Bool.not_false, Bool.false_eq_true, if_true, if_false] at h
            refine Wk_skip ?_
            repeat (with_reducible first | refine Pop.pop ?_ | refine ap_nil_i ?_ | refine ap_lp_i ?_ | refine ap_bl_next (by decide) ?_)
            unfold streams_Ack_J2 at h
            refine Wk_seq ?_
            obtain ⟨r11, hr12, h⟩ := Option.bind_eq_some_iff.1 h
            refine Wk_regionZ fun Z hZ => ?_
            simp (config := { maxSteps := 4000000 }) only [go_sem, Nat.reduceLT, Nat.reduceEqDiff, Nat.reduceAdd, Nat.reduceBEq, Nat.reduceMul, Nat.reduceSub, reduceIte, Nat.reduceLeDiff, reduceCtorEq, Int.reduceNeg, Int.reduceToNat, Int.reduceEq, Int.reduceNe, Int.reduceLT, Int.reduceLE, hr1, hc2, hr3, hc4, hb5, hx6, hc7d, hc11, hr12]
            refine hZ _ ?_
            repeat (with_reducible first | refine Pop.pop ?_ | refine ap_nil_i ?_ | refine ap_lp_i ?_ | refine ap_bl_next (by decide) ?_)
            refine Wk_seq ?_
            obtain ⟨x12, hb13, hx14, h⟩ := gx_some h
            have hx16 := set_get (y := (Sub.mk x12.Target x12.Method (IntKind.i64.wrap (x12.Cursor + 1)))) hx14
            refine Wk_regionZ fun Z hZ => ?_
            simp (config := { maxSteps := 4000000 }) only [go_sem, Nat.reduceLT, Nat.reduceEqDiff, Nat.reduceAdd, Nat.reduceBEq, Nat.reduceMul, Nat.reduceSub, reduceIte, Nat.reduceLeDiff, reduceCtorEq, Int.reduceNeg, Int.reduceToNat, Int.reduceEq, Int.reduceNe, Int.reduceLT, Int.reduceLE, hr1, hc2, hr3, hc4, hb5, hx6, hc7d, hc11, hr12, hb13, hx14, map_modify2 (row := Sub.row) (y := (Sub.mk x12.Target x12.Method (IntKind.i64.wrap (x12.Cursor + 1)))) (rx := [.val (.string x12.Target.Type_), .val (.string x12.Target.Key), .val (.string x12.Method), .val (.int .i64 x12.Cursor)]) (ry := [.val (.string x12.Target.Type_), .val (.string x12.Target.Key), .val (.string x12.Method), .val (.int .i64 (IntKind.i64.wrap (x12.Cursor + 1)))]) hx14 rfl rfl, hx16]
            refine hZ _ ?_
            repeat (with_reducible first | refine Pop.pop ?_ | refine ap_nil_i ?_ | refine ap_lp_i ?_ | refine ap_bl_next (by decide) ?_)
            refine Wk_seq ?_
            refine Wk_regionZ fun Z hZ => ?_
            simp (config := { maxSteps := 4000000 }) only [go_sem, Nat.reduceLT, Nat.reduceEqDiff, Nat.reduceAdd, Nat.reduceBEq, Nat.reduceMul, Nat.reduceSub, reduceIte, Nat.reduceLeDiff, reduceCtorEq, Int.reduceNeg, Int.reduceToNat, Int.reduceEq, Int.reduceNe, Int.reduceLT, Int.reduceLE, hr1, hc2, hr3, hc4, hb5, hx6, hc7d, hc11, hr12, hb13, hx14, map_modify2 (row := Sub.row) (y := (Sub.mk x12.Target x12.Method (IntKind.i64.wrap (x12.Cursor + 1)))) (rx := [.val (.string x12.Target.Type_), .val (.string x12.Target.Key), .val (.string x12.Method), .val (.int .i64 x12.Cursor)]) (ry := [.val (.string x12.Target.Type_), .val (.string x12.Target.Key), .val (.string x12.Method), .val (.int .i64 (IntKind.i64.wrap (x12.Cursor + 1)))]) hx14 rfl rfl, hx16]
            refine hZ _ ?_
            repeat (with_reducible first | refine Pop.pop ?_ | refine ap_nil_i ?_ | refine ap_lp_i ?_ | refine ap_bl_next (by decide) ?_)
            refine Wk_ret ?_
            repeat (with_reducible first | refine Pop.pop ?_ | refine ap_nil_i ?_ | refine ap_lp_i ?_ | refine ap_bl_next (by decide) ?_)
            simp (config := { maxSteps := 4000000 }) only [go_sem, Nat.reduceLT, Nat.reduceEqDiff, Nat.reduceAdd, Nat.reduceBEq, Nat.reduceMul, Nat.reduceSub, reduceIte, Nat.reduceLeDiff, reduceCtorEq, Int.reduceNeg, Int.reduceToNat, Int.reduceEq, Int.reduceNe, Int.reduceLT, Int.reduceLE, hr1, hc2, hr3, hc4, hb5, hx6, hc7d, hc11, hr12, hb13, hx14, map_modify2 (row := Sub.row) (y := (Sub.mk x12.Target x12.Method (IntKind.i64.wrap (x12.Cursor + 1)))) (rx := [.val (.string x12.Target.Type_), .val (.string x12.Target.Key), .val (.string x12.Method), .val (.int .i64 x12.Cursor)]) (ry := [.val (.string x12.Target.Type_), .val (.string x12.Target.Key), .val (.string x12.Method), .val (.int .i64 (IntKind.i64.wrap (x12.Cursor + 1)))]) hx14 rfl rfl, hx16, FinW_ret, List.length_set, List.take_length]
            obtain rfl := Option.some.inj h
            exact ⟨_, rfl, (by repeat' (first | exact ROk.refl _ | exact ROk.nil _ | ((refine ROk.of _ ?_ ?_); (focus ((repeat' (first | exact Le.refl _ | exact LeL.nil | exact Le.nils | exact LeLL.refl _ | refine LeLL.mapAppend ?_ ?_ | refine LeLL.cons ?_ ?_ | refine Le.sl ?_ | refine Le.tup ?_ | refine Le.agg ?_ | refine LeL.cons ?_ ?_)); done)); (focus ((repeat' (first | exact NoOwn.val _ | exact NoOwn.sl _ _ _ _ | refine NoOwn.tup ?_ | refine NoOwn.agg ?_ | exact noOwn_nil | refine noOwn_cons ?_ ?_)); done))) | ((refine ROk.own ?_ ?_); (focus ((repeat' (first | exact Le.refl _ | exact LeL.nil | exact Le.nils | exact LeLL.refl _ | refine LeLL.mapAppend ?_ ?_ | refine LeLL.cons ?_ ?_ | refine Le.sl ?_ | refine Le.tup ?_ | refine Le.agg ?_ | refine LeL.cons ?_ ?_)); done)); (focus ((first | exact RowOk.noOwn (rowI_ok .i64) _ | exact RowOk.noOwn Sub.row_ok _); done))) | refine ROk.agg rfl ?_ | refine ROk.tup rfl ?_ | exact rok_nil | refine rok_cons ?_ ?_)), (by (repeat' (first | exact PureC.val _ | refine PureC.tup ?_ | refine PureC.agg ?_ | exact pure_nil | refine pure_cons ?_ ?_ | refine PureC.sl ?_ | exact pure_rows (pure_rowI .i64) _ | exact pure_rows Sub.row_pure _ |  exact pure_rows_nil | refine pure_rows_append ?_ ?_ | refine pure_rows_cons ?_ ?_)))⟩
def fs_streams_Ack (N : Nat) : FnS := { own := [], pure := true, fn := fun cs => match cs with
  | [c0, c1, c2, c3] => (Topic.decA c0).bind fun qc0 => (Ref.decA c1).bind fun qc1 => (decS c2).bind fun qc2 => ((decI .i64) c3).bind fun qc3 => (streams_Ack N qc0 qc1 qc2 qc3).map fun r => .tup [.agg (Topic.row r.1), .val (.int .i64 r.2)]
  | _ => none }
theorem fs_streams_Ack_own (N : Nat) : (fs_streams_Ack N).own = [] := rfl
theorem fs_streams_Ack_pure (N : Nat) : (fs_streams_Ack N).pure = true := rfl
attribute [go_sem] fs_streams_Ack fs_streams_Ack_own fs_streams_Ack_pure
theorem fs_streams_Ack_ok (N : Nat) : FSOk Try.prog 16 (fs_streams_Ack N) := by
  refine ⟨fun cs r h => ?_, fun h => by cases h⟩
  simp only [fs_streams_Ack] at h
  split at h
  · simp only [Option.bind_eq_some_iff, Option.map_eq_some_iff] at h
    obtain ⟨q0, h0, q1, h1, q2, h2, q3, h3, r', hr, rfl⟩ := h
    exact (((w_streams_Ack N q0 q1 q2 q3 r' hr).args (LeL.cons (Topic.decA_le h0) (LeL.cons (Ref.decA_le h1) (LeL.cons (decS_le h2) (LeL.cons (decI_le h3) (LeL.nil)))))).res (by repeat' (first | exact ROk.refl _ | exact ROk.nil _ | ((refine ROk.of _ ?_ ?_); (focus ((repeat' (first | exact Le.refl _ | exact LeL.nil | exact Le.nils | exact LeLL.refl _ | refine LeLL.mapAppend ?_ ?_ | refine LeLL.cons ?_ ?_ | refine Le.sl ?_ | refine Le.tup ?_ | refine Le.agg ?_ | refine LeL.cons ?_ ?_)); done)); (focus ((repeat' (first | exact NoOwn.val _ | exact NoOwn.sl _ _ _ _ | refine NoOwn.tup ?_ | refine NoOwn.agg ?_ | exact noOwn_nil | refine noOwn_cons ?_ ?_)); done))) | ((refine ROk.own ?_ ?_); (focus ((repeat' (first | exact Le.refl _ | exact LeL.nil | exact Le.nils | exact LeLL.refl _ | refine LeLL.mapAppend ?_ ?_ | refine LeLL.cons ?_ ?_ | refine Le.sl ?_ | refine Le.tup ?_ | refine Le.agg ?_ | refine LeL.cons ?_ ?_)); done)); (focus ((first | exact RowOk.noOwn (rowI_ok .i64) _ | exact RowOk.noOwn Sub.row_ok _); done))) | refine ROk.agg rfl ?_ | refine ROk.tup rfl ?_ | exact rok_nil | refine rok_cons ?_ ?_)))
  · cases h

def fso_streams_Ack (N : Nat) : FnS := { own := [], pure := true, fn := fun cs => match cs with
  | [c0, c1, c2, c3] => (Topic.decA c0).bind fun qc0 => (Ref.decA c1).bind fun qc1 => (decS c2).bind fun qc2 => ((decI .i64) c3).bind fun qc3 => (streams_Ack N qc0 qc1 qc2 qc3).map fun r => .tup [.agg [.val (.string r.1.Name), .val (.int .i64 r.1.First), .sl true none 1 none (r.1.Events.map (rowI .i64)), .sl true none 4 none (r.1.Subs.map Sub.row)], .val (.int .i64 r.2)]
  | _ => none }
theorem fso_streams_Ack_own (N : Nat) : (fso_streams_Ack N).own = [] := rfl
theorem fso_streams_Ack_pure (N : Nat) : (fso_streams_Ack N).pure = true := rfl
attribute [go_sem] fso_streams_Ack fso_streams_Ack_own fso_streams_Ack_pure
theorem fso_streams_Ack_ok (N : Nat) : FSOk Try.prog 16 (fso_streams_Ack N) := by
  refine ⟨fun cs r h => ?_, fun h => by cases h⟩
  simp only [fso_streams_Ack] at h
  split at h
  · simp only [Option.bind_eq_some_iff, Option.map_eq_some_iff] at h
    obtain ⟨q0, h0, q1, h1, q2, h2, q3, h3, r', hr, rfl⟩ := h
    exact ((w_streams_Ack N q0 q1 q2 q3 r' hr).args (LeL.cons (Topic.decA_le h0) (LeL.cons (Ref.decA_le h1) (LeL.cons (decS_le h2) (LeL.cons (decI_le h3) (LeL.nil))))))
  · cases h

end Go.Proofs.Ytpkfhjbgnpdgcaa
end

section
set_option linter.unusedSimpArgs false
set_option linter.unusedVariables false
set_option maxRecDepth 100000
namespace Go.Proofs.Ytpkfhjbgnpdgcaa
open Go Go.Proofs Go.Abs
noncomputable def E_streams_Trim (N : Nat) : Env := { T := tiOf Try.prog, G := fun d f => if d = 8 ∧ f = 19 then some (fs_streams_Valid N) else if d = 12 ∧ f = 17 then some (fs_streams_End N) else if d = 26 ∧ f = 28 then some (fso_streams_clone N) else none, F := fun d => none }
theorem E_streams_Trim_F (N : Nat) (d : Nat) : (E_streams_Trim N).F d = none := rfl
theorem E_streams_Trim_T (N : Nat) : (E_streams_Trim N).T = tiOf Try.prog := rfl
theorem E_streams_Trim_G0 (N : Nat) : (E_streams_Trim N).G 8 19 = some (fs_streams_Valid N) := rfl
theorem E_streams_Trim_G1 (N : Nat) : (E_streams_Trim N).G 12 17 = some (fs_streams_End N) := rfl
theorem E_streams_Trim_G2 (N : Nat) : (E_streams_Trim N).G 26 28 = some (fso_streams_clone N) := rfl
theorem E_streams_Trim_ok (N : Nat) : GOk Try.prog { T := tiOf Try.prog, G := (E_streams_Trim N).G } := by
  intro d f fs hfs
  simp only [E_streams_Trim] at hfs
  by_cases hc : d = 8 ∧ f = 19
  · rw [if_pos hc] at hfs; obtain ⟨rfl, rfl⟩ := hc; obtain rfl := Option.some.inj hfs; exact fs_streams_Valid_ok N
  rw [if_neg hc] at hfs
  by_cases hc : d = 12 ∧ f = 17
  · rw [if_pos hc] at hfs; obtain ⟨rfl, rfl⟩ := hc; obtain rfl := Option.some.inj hfs; exact fs_streams_End_ok N
  rw [if_neg hc] at hfs
  by_cases hc : d = 26 ∧ f = 28
  · rw [if_pos hc] at hfs; obtain ⟨rfl, rfl⟩ := hc; obtain rfl := Option.some.inj hfs; exact fso_streams_clone_ok N
  rw [if_neg hc] at hfs
  cases hfs
theorem fo_streams_Trim : FunOk Try.prog 14 Try.f14 Try.f14.body.get! := ⟨Try.func14, rfl, by decide, by kernel_rfl⟩
attribute [go_sem] E_streams_Trim_T E_streams_Trim_F E_streams_Trim_G0 E_streams_Trim_G1 E_streams_Trim_G2
set_option maxHeartbeats 4000000 in
theorem w_streams_Trim (N : Nat) (a0 : Topic) (r : Topic) (h : streams_Trim N a0 = some r) : Con Try.prog 14 [] true [.agg [.val (.string a0.Name), .val (.int .i64 a0.First), .sl false none 1 none (a0.Events.map (rowI .i64)), .sl false none 4 none (a0.Subs.map Sub.row)]] (.agg [.val (.string r.Name), .val (.int .i64 r.First), .sl true none 1 none (r.Events.map (rowI .i64)), .sl true none 4 none (r.Subs.map Sub.row)]) := by
  refine fun_ok3 (E := E_streams_Trim N) (tiOf_ok Try.prog (E_streams_Trim N).G) (E_streams_Trim_ok N) mix fo_streams_Trim (Nat.le_of_ble_eq_true rfl) ?_
  intro _
  rw [entry_tab (by simp)]
  rw [show entryF [] [.agg [.val (.string a0.Name), .val (.int .i64 a0.First), .sl false none 1 none (a0.Events.map (rowI .i64)), .sl false none 4 none (a0.Subs.map Sub.row)]] = (updT deadT 0 (.agg [.val (.string a0.Name), .val (.int .i64 a0.First), .sl false none 1 none (a0.Events.map (rowI .i64)), .sl false none 4 none (a0.Subs.map Sub.row)])) from by funext t; match t with | 0 => rfl | t + 1 => rfl]
  apply Wk_start
  simp only [Try.f14, Option.get!, R0_RZ]
  unfold streams_Trim at h
  refine Wk_seq ?_
  refine Wk_regionZ fun Z hZ => ?_
  simp (config := { maxSteps := 4000000 }) only [go_sem, Nat.reduceLT, Nat.reduceEqDiff, Nat.reduceAdd, Nat.reduceBEq, Nat.reduceMul, Nat.reduceSub, reduceIte, Nat.reduceLeDiff, reduceCtorEq, Int.reduceNeg, Int.reduceToNat, Int.reduceEq, Int.reduceNe, Int.reduceLT, Int.reduceLE]
  refine hZ _ ?_
  repeat (with_reducible first | refine Pop.pop ?_ | refine ap_nil_i ?_ | refine ap_lp_i ?_ | refine ap_bl_next (by decide) ?_)
  refine Wk_seq ?_
  refine Wk_seq ?_
  obtain ⟨r1, hr1, h⟩ := Option.bind_eq_some_iff.1 h
  refine Wk_regionZ fun Z hZ => ?_
  simp (config := { maxSteps := 4000000 }) only [go_sem, Nat.reduceLT, Nat.reduceEqDiff, Nat.reduceAdd, Nat.reduceBEq, Nat.reduceMul, Nat.reduceSub, reduceIte, Nat.reduceLeDiff, reduceCtorEq, Int.reduceNeg, Int.reduceToNat, Int.reduceEq, Int.reduceNe, Int.reduceLT, Int.reduceLE, hr1]
  refine hZ _ ?_
  repeat (with_reducible first | refine Pop.pop ?_ | refine ap_nil_i ?_ | refine ap_lp_i ?_ | refine ap_bl_next (by decide) ?_)
  refine Wk_cond_nbool rfl (fun hc2 => ?_) (fun hc2 => ?_)
  · first | rw [if_neg (ne_true_of_eq_false hc2)] at h | simp only [hc2, Bool.or_false, Bool.or_true, Bool.false_or, Bool.true_or, Bool.and_true, Bool.true_and, Bool.and_false, Bool.false_and, Bool.not_true, Bool.not_false, Bool.false_eq_true, if_true, if_false] at h
    refine Wk_seq ?_
    refine Wk_regionZ fun Z hZ => ?_
    simp (config := { maxSteps := 4000000 }) only [go_sem, Nat.reduceLT, Nat.reduceEqDiff, Nat.reduceAdd, Nat.reduceBEq, Nat.reduceMul, Nat.reduceSub, reduceIte, Nat.reduceLeDiff, reduceCtorEq, Int.reduceNeg, Int.reduceToNat, Int.reduceEq, Int.reduceNe, Int.reduceLT, Int.reduceLE, hr1, hc2]
    refine hZ _ ?_
    repeat (with_reducible first | refine Pop.pop ?_ | refine ap_nil_i ?_ | refine ap_lp_i ?_ | refine ap_bl_next (by decide) ?_)
    refine Wk_ret ?_
    repeat (with_reducible first | refine Pop.pop ?_ | refine ap_nil_i ?_ | refine ap_lp_i ?_ | refine ap_bl_next (by decide) ?_)
    simp (config := { maxSteps := 4000000 }) only [go_sem, Nat.reduceLT, Nat.reduceEqDiff, Nat.reduceAdd, Nat.reduceBEq, Nat.reduceMul, Nat.reduceSub, reduceIte, Nat.reduceLeDiff, reduceCtorEq, Int.reduceNeg, Int.reduceToNat, Int.reduceEq, Int.reduceNe, Int.reduceLT, Int.reduceLE, hr1, hc2, FinW_ret, List.length_set, List.take_length]
    obtain rfl := Option.some.inj h
    exact ⟨_, rfl, (by repeat' (first | exact ROk.refl _ | exact ROk.nil _ | ((refine ROk.of _ ?_ ?_); (focus ((repeat' (first | exact Le.refl _ | exact LeL.nil | exact Le.nils | exact LeLL.refl _ | refine LeLL.mapAppend ?_ ?_ | refine LeLL.cons ?_ ?_ | refine Le.sl ?_ | refine Le.tup ?_ | refine Le.agg ?_ | refine LeL.cons ?_ ?_)); done)); (focus ((repeat' (first | exact NoOwn.val _ | exact NoOwn.sl _ _ _ _ | refine NoOwn.tup ?_ | refine NoOwn.agg ?_ | exact noOwn_nil | refine noOwn_cons ?_ ?_)); done))) | ((refine ROk.own ?_ ?_); (focus ((repeat' (first | exact Le.refl _ | exact LeL.nil | exact Le.nils | exact LeLL.refl _ | refine LeLL.mapAppend ?_ ?_ | refine LeLL.cons ?_ ?_ | refine Le.sl ?_ | refine Le.tup ?_ | refine Le.agg ?_ | refine LeL.cons ?_ ?_)); done)); (focus ((first | exact RowOk.noOwn (rowI_ok .i64) _ | exact RowOk.noOwn Sub.row_ok _); done))) | refine ROk.agg rfl ?_ | refine ROk.tup rfl ?_ | exact rok_nil | refine rok_cons ?_ ?_)), (by (repeat' (first | exact PureC.val _ | refine PureC.tup ?_ | refine PureC.agg ?_ | exact pure_nil | refine pure_cons ?_ ?_ | refine PureC.sl ?_ | exact pure_rows (pure_rowI .i64) _ | exact pure_rows Sub.row_pure _ |  exact pure_rows_nil | refine pure_rows_append ?_ ?_ | refine pure_rows_cons ?_ ?_)))⟩
  · first | rw [if_pos hc2] at h | simp only [hc2, Bool.or_false, Bool.or_true, Bool.false_or, Bool.true_or, Bool.and_true, Bool.true_and, Bool.and_false, Bool.false_and, Bool.not_true, Bool.not_false, Bool.false_eq_true, if_true, if_false] at h
    refine Wk_skip ?_
    repeat (with_reducible first | refine Pop.pop ?_ | refine ap_nil_i ?_ | refine ap_lp_i ?_ | refine ap_bl_next (by decide) ?_)
    refine Wk_seq ?_
    obtain ⟨r2, hr3, h⟩ := Option.bind_eq_some_iff.1 h
    refine Wk_regionZ fun Z hZ => ?_
    simp (config := { maxSteps := 4000000 }) only [go_sem, Nat.reduceLT, Nat.reduceEqDiff, Nat.reduceAdd, Nat.reduceBEq, Nat.reduceMul, Nat.reduceSub, reduceIte, Nat.reduceLeDiff, reduceCtorEq, Int.reduceNeg, Int.reduceToNat, Int.reduceEq, Int.reduceNe, Int.reduceLT, Int.reduceLE, hr1, hc2, hr3]
    refine hZ _ ?_
    repeat (with_reducible first | refine Pop.pop ?_ | refine ap_nil_i ?_ | refine ap_lp_i ?_ | refine ap_bl_next (by decide) ?_)
    refine Wk_seq ?_
    refine Wk_seq ?_
    refine Wk_regionZ fun Z hZ => ?_
    simp (config := { maxSteps := 4000000 }) only [go_sem, Nat.reduceLT, Nat.reduceEqDiff, Nat.reduceAdd, Nat.reduceBEq, Nat.reduceMul, Nat.reduceSub, reduceIte, Nat.reduceLeDiff, reduceCtorEq, Int.reduceNeg, Int.reduceToNat, Int.reduceEq, Int.reduceNe, Int.reduceLT, Int.reduceLE, hr1, hc2, hr3]
    refine hZ _ ?_
    repeat (with_reducible first | refine Pop.pop ?_ | refine ap_nil_i ?_ | refine ap_lp_i ?_ | refine ap_bl_next (by decide) ?_)
    refine Wk_block ?_
    refine Wk_real fun hreal5 => ?_
    have hl4 := hreal5.lenT 14 (by decide) (by simp only [go_sem, Nat.reduceLT, Nat.reduceEqDiff, Nat.reduceAdd, Nat.reduceBEq, Nat.reduceMul, Nat.reduceSub, reduceIte, Nat.reduceLeDiff, reduceCtorEq, Int.reduceNeg, Int.reduceToNat, Int.reduceEq, Int.reduceNe, Int.reduceLT, Int.reduceLE, Bool.or_self, List.length_set, Int.natCast_zero, Int.cast_ofNat_Int, hr1, hc2, hr3]; rfl)
    rw [List.length_map] at hl4
    refine Wk_range (fun (v6 : Nat) (b : Int) => ⟨tab 39 (updT (updT (updT (updT (updT (updT deadT 1 (.pref 1 [] 0 0)) 2 (.pref 2 [] 0 0)) 3 (.val (.int .i64 b))) 14 (.sl false none 4 none (a0.Subs.map Sub.row))) 15 (.val (.int .i64 ((a0.Subs.length : Nat) : Int)))) 16 (.val (.int .i64 ((v6 : Nat) : Int)))), (upd (upd RZ 1 (.sl true none 4 (some 1) [[.val (.string a0.Name), .val (.int .i64 a0.First), .sl false none 1 none (a0.Events.map (rowI .i64)), .sl false none 4 none (a0.Subs.map Sub.row)]])) 2 (.sl true none 4 (some 1) [[.val (.string (⟨#[]⟩)), .val (.int .i64 0), .val (.slice none 0 0), .val (.slice none 0 0)]]))⟩) r2 h ?_ ?_
    · refine weak_roots ?_ ?_
      · (repeat' (first | exact weakX_nil | refine weakX_cons ?_ ?_)) <;> (first | rfl | simp only [go_sem, Nat.reduceLT, Nat.reduceEqDiff, Nat.reduceAdd, Nat.reduceBEq, Nat.reduceMul, Nat.reduceSub, reduceIte, Nat.reduceLeDiff, reduceCtorEq, Int.reduceNeg, Int.reduceToNat, Int.reduceEq, Int.reduceNe, Int.reduceLT, Int.reduceLE, Bool.or_self, List.length_set, Int.natCast_zero, Int.cast_ofNat_Int, hr1, hc2, hr3])
      · (repeat' (first | exact weakR_nil | refine weakR_cons ?_ ?_ ?_)) <;> (first | rfl | simp only [go_sem, Nat.reduceLT, Nat.reduceEqDiff, Nat.reduceAdd, Nat.reduceBEq, Nat.reduceMul, Nat.reduceSub, reduceIte, Nat.reduceLeDiff, reduceCtorEq, Int.reduceNeg, Int.reduceToNat, Int.reduceEq, Int.reduceNe, Int.reduceLT, Int.reduceLE, Bool.or_self, List.length_set, Int.natCast_zero, Int.cast_ofNat_Int, hr1, hc2, hr3])
    · rintro v6 v5 hi6 h -
      rcases drop_cases a0.Subs v6 hi6 with ⟨x9, hi6', hx7, hd9⟩ | ⟨hi6', _, hd9⟩
      · rw [hd9] at h
        simp only [streams_Trim_L1] at h
        have hw8 := wrap_succ hi6' hl4
        refine Wk_seq ?_
        refine Wk_regionZ fun Z hZ => ?_
        simp (config := { maxSteps := 4000000 }) only [go_sem, Nat.reduceLT, Nat.reduceEqDiff, Nat.reduceAdd, Nat.reduceBEq, Nat.reduceMul, Nat.reduceSub, reduceIte, Nat.reduceLeDiff, reduceCtorEq, Int.reduceNeg, Int.reduceToNat, Int.reduceEq, Int.reduceNe, Int.reduceLT, Int.reduceLE, hr1, hc2, hr3, hx7, hi6', hw8]
        refine hZ _ ?_
        repeat (with_reducible first | refine Pop.pop ?_ | refine ap_nil_i ?_ | refine ap_lp_i ?_ | refine ap_bl_next (by decide) ?_)
        refine Wk_seq ?_
        try simp only [Int.ofNat_lt, hi6', if_true, if_false] at h
        refine Wk_cond_t rfl ?_
        refine Wk_skip ?_
        repeat (with_reducible first | refine Pop.pop ?_ | refine ap_nil_i ?_ | refine ap_lp_i ?_ | refine ap_bl_next (by decide) ?_)
        refine Wk_seq ?_
        refine Wk_block ?_
        refine Wk_seq ?_
        try rw [gx_nat hx7] at h
        refine Wk_regionZ fun Z hZ => ?_
        simp (config := { maxSteps := 4000000 }) only [go_sem, Nat.reduceLT, Nat.reduceEqDiff, Nat.reduceAdd, Nat.reduceBEq, Nat.reduceMul, Nat.reduceSub, reduceIte, Nat.reduceLeDiff, reduceCtorEq, Int.reduceNeg, Int.reduceToNat, Int.reduceEq, Int.reduceNe, Int.reduceLT, Int.reduceLE, hr1, hc2, hr3, hx7, hi6', hw8]
        refine hZ _ ?_
        repeat (with_reducible first | refine Pop.pop ?_ | refine ap_nil_i ?_ | refine ap_lp_i ?_ | refine ap_bl_next (by decide) ?_)
        refine Wk_regionZ fun Z hZ => ?_
        simp (config := { maxSteps := 4000000 }) only [go_sem, Nat.reduceLT, Nat.reduceEqDiff, Nat.reduceAdd, Nat.reduceBEq, Nat.reduceMul, Nat.reduceSub, reduceIte, Nat.reduceLeDiff, reduceCtorEq, Int.reduceNeg, Int.reduceToNat, Int.reduceEq, Int.reduceNe, Int.reduceLT, Int.reduceLE, hr1, hc2, hr3, hx7, hi6', hw8]
        refine hZ _ ?_
        repeat (with_reducible first | refine Pop.pop ?_ | refine ap_nil_i ?_ | refine ap_lp_i ?_ | refine ap_bl_next (by decide) ?_)
        refine Wk_regionZ fun Z hZ => ?_
        simp (config := { maxSteps := 4000000 }) only [go_sem, Nat.reduceLT, Nat.reduceEqDiff, Nat.reduceAdd, Nat.reduceBEq, Nat.reduceMul, Nat.reduceSub, reduceIte, Nat.reduceLeDiff, reduceCtorEq, Int.reduceNeg, Int.reduceToNat, Int.reduceEq, Int.reduceNe, Int.reduceLT, Int.reduceLE, hr1, hc2, hr3, hx7, hi6', hw8]
        refine hZ _ ?_
        repeat (with_reducible first | refine Pop.pop ?_ | refine ap_nil_i ?_ | refine ap_lp_i ?_ | refine ap_bl_next (by decide) ?_)
        first | refine ⟨(if x9.Cursor < v5 then x9.Cursor else v5), ?_, h⟩ | refine ⟨hi6', (if x9.Cursor < v5 then x9.Cursor else v5), ?_, h⟩
        refine weak_roots ?_ ?_
        · (repeat' (first | exact weakX_nil | refine weakX_cons ?_ ?_)) <;> (first | rfl | simp only [go_sem, Nat.reduceLT, Nat.reduceEqDiff, Nat.reduceAdd, Nat.reduceBEq, Nat.reduceMul, Nat.reduceSub, reduceIte, Nat.reduceLeDiff, reduceCtorEq, Int.reduceNeg, Int.reduceToNat, Int.reduceEq, Int.reduceNe, Int.reduceLT, Int.reduceLE, Bool.or_self, List.length_set, Int.natCast_zero, Int.cast_ofNat_Int, hr1, hc2, hr3, hx7, hi6', hw8])
        · (repeat' (first | exact weakR_nil | refine weakR_cons ?_ ?_ ?_)) <;> (first | rfl | simp only [go_sem, Nat.reduceLT, Nat.reduceEqDiff, Nat.reduceAdd, Nat.reduceBEq, Nat.reduceMul, Nat.reduceSub, reduceIte, Nat.reduceLeDiff, reduceCtorEq, Int.reduceNeg, Int.reduceToNat, Int.reduceEq, Int.reduceNe, Int.reduceLT, Int.reduceLE, Bool.or_self, List.length_set, Int.natCast_zero, Int.cast_ofNat_Int, hr1, hc2, hr3, hx7, hi6', hw8])
      · rw [hd9] at h
        simp only [streams_Trim_L1] at h
        refine Wk_seq ?_
        refine Wk_regionZ fun Z hZ => ?_
        simp (config := { maxSteps := 4000000 }) only [go_sem, Nat.reduceLT, Nat.reduceEqDiff, Nat.reduceAdd, Nat.reduceBEq, Nat.reduceMul, Nat.reduceSub, reduceIte, Nat.reduceLeDiff, reduceCtorEq, Int.reduceNeg, Int.reduceToNat, Int.reduceEq, Int.reduceNe, Int.reduceLT, Int.reduceLE, hr1, hc2, hr3, hi6']
        refine hZ _ ?_
        repeat (with_reducible first | refine Pop.pop ?_ | refine ap_nil_i ?_ | refine ap_lp_i ?_ | refine ap_bl_next (by decide) ?_)
        refine Wk_seq ?_
        try simp only [Int.ofNat_lt, hi6', if_true, if_false] at h
        refine Wk_cond_f rfl ?_
        refine Wk_exit ?_
        repeat (with_reducible first | refine Pop.pop ?_ | refine ap_nil_i ?_ | refine ap_lp_i ?_ | refine ap_bl_next (by decide) ?_)
        unfold streams_Trim_J1 at h
        refine Wk_seq ?_
        obtain ⟨r10, hr10, h⟩ := Option.bind_eq_some_iff.1 h
        refine Wk_regionZ fun Z hZ => ?_
        simp (config := { maxSteps := 4000000 }) only [go_sem, Nat.reduceLT, Nat.reduceEqDiff, Nat.reduceAdd, Nat.reduceBEq, Nat.reduceMul, Nat.reduceSub, reduceIte, Nat.reduceLeDiff, reduceCtorEq, Int.reduceNeg, Int.reduceToNat, Int.reduceEq, Int.reduceNe, Int.reduceLT, Int.reduceLE, hr1, hc2, hr3, hi6', hr10]
        refine hZ _ ?_
        repeat (with_reducible first | refine Pop.pop ?_ | refine ap_nil_i ?_ | refine ap_lp_i ?_ | refine ap_bl_next (by decide) ?_)
        refine Wk_seq ?_
        obtain ⟨hs11, h⟩ := slx_some h
        try simp only [Int.toNat_natCast, Int.reduceToNat, Int.toNat_zero, Nat.sub_zero, List.drop_zero] at hs11 h
        first | obtain ⟨ha12, h⟩ := apn_some h | (obtain ⟨ha12, h⟩ := apx_some h; rw [List.nil_append] at h)
        simp only [List.length_cons, List.length_nil, Nat.zero_add, Nat.add_zero, Nat.reduceAdd] at ha12
        refine Wk_regionZ fun Z hZ => ?_
        simp (config := { maxSteps := 4000000 }) only [go_sem, Nat.reduceLT, Nat.reduceEqDiff, Nat.reduceAdd, Nat.reduceBEq, Nat.reduceMul, Nat.reduceSub, reduceIte, Nat.reduceLeDiff, reduceCtorEq, Int.reduceNeg, Int.reduceToNat, Int.reduceEq, Int.reduceNe, Int.reduceLT, Int.reduceLE, hr1, hc2, hr3, hi6', hr10, hs11, Nat.sub_zero, Nat.zero_le, ha12]
        refine hZ _ ?_
        repeat (with_reducible first | refine Pop.pop ?_ | refine ap_nil_i ?_ | refine ap_lp_i ?_ | refine ap_bl_next (by decide) ?_)
        refine Wk_seq ?_
        refine Wk_regionZ fun Z hZ => ?_
        simp (config := { maxSteps := 4000000 }) only [go_sem, Nat.reduceLT, Nat.reduceEqDiff, Nat.reduceAdd, Nat.reduceBEq, Nat.reduceMul, Nat.reduceSub, reduceIte, Nat.reduceLeDiff, reduceCtorEq, Int.reduceNeg, Int.reduceToNat, Int.reduceEq, Int.reduceNe, Int.reduceLT, Int.reduceLE, hr1, hc2, hr3, hi6', hr10, hs11, Nat.sub_zero, Nat.zero_le, ha12]
        refine hZ _ ?_
        repeat (with_reducible first | refine Pop.pop ?_ | refine ap_nil_i ?_ | refine ap_lp_i ?_ | refine ap_bl_next (by decide) ?_)
        refine Wk_seq ?_
        refine Wk_regionZ fun Z hZ => ?_
        simp (config := { maxSteps := 4000000 }) only [go_sem, Nat.reduceLT, Nat.reduceEqDiff, Nat.reduceAdd, Nat.reduceBEq, Nat.reduceMul, Nat.reduceSub, reduceIte, Nat.reduceLeDiff, reduceCtorEq, Int.reduceNeg, Int.reduceToNat, Int.reduceEq, Int.reduceNe, Int.reduceLT, Int.reduceLE, hr1, hc2, hr3, hi6', hr10, hs11, Nat.sub_zero, Nat.zero_le, ha12]
        refine hZ _ ?_
        repeat (with_reducible first | refine Pop.pop ?_ | refine ap_nil_i ?_ | refine ap_lp_i ?_ | refine ap_bl_next (by decide) ?_)
        refine Wk_ret ?_
        repeat (with_reducible first | refine Pop.pop ?_ | refine ap_nil_i ?_ | refine ap_lp_i ?_ | refine ap_bl_next (by decide) ?_)
        simp (config := { maxSteps := 4000000 }) only [go_sem, Nat.reduceLT, Nat.reduceEqDiff, Nat.reduceAdd, Nat.reduceBEq, Nat.reduceMul, Nat.reduceSub, reduceIte, Nat.reduceLeDiff, reduceCtorEq, Int.reduceNeg, Int.reduceToNat, Int.reduceEq, Int.reduceNe, Int.reduceLT, Int.reduceLE, hr1, hc2, hr3, hi6', hr10, hs11, Nat.sub_zero, Nat.zero_le, ha12, FinW_ret, List.length_set, List.take_length]
        obtain rfl := Option.some.inj h
        exact ⟨_, rfl, (by repeat' (first | exact ROk.refl _ | exact ROk.nil _ | ((refine ROk.of _ ?_ ?_); (focus ((repeat' (first | exact Le.refl _ | exact LeL.nil | exact Le.nils | exact LeLL.refl _ | refine LeLL.mapAppend ?_ ?_ | refine LeLL.cons ?_ ?_ | refine Le.sl ?_ | refine Le.tup ?_ | refine Le.agg ?_ | refine LeL.cons ?_ ?_)); done)); (focus ((repeat' (first | exact NoOwn.val _ | exact NoOwn.sl _ _ _ _ | refine NoOwn.tup ?_ | refine NoOwn.agg ?_ | exact noOwn_nil | refine noOwn_cons ?_ ?_)); done))) | ((refine ROk.own ?_ ?_); (focus ((repeat' (first | exact Le.refl _ | exact LeL.nil | exact Le.nils | exact LeLL.refl _ | refine LeLL.mapAppend ?_ ?_ | refine LeLL.cons ?_ ?_ | refine Le.sl ?_ | refine Le.tup ?_ | refine Le.agg ?_ | refine LeL.cons ?_ ?_)); done)); (focus ((first | exact RowOk.noOwn (rowI_ok .i64) _ | exact RowOk.noOwn Sub.row_ok _); done))) | refine ROk.agg rfl ?_ | refine ROk.tup rfl ?_ | exact rok_nil | refine rok_cons ?_ ?_)), (by (repeat' (first | exact PureC.val _ | refine PureC.tup ?_ | refine PureC.agg ?_ | exact pure_nil | refine pure_cons ?_ ?_ | refine PureC.sl ?_ | exact pure_rows (pure_rowI .i64) _ | exact pure_rows Sub.row_pure _ |  exact pure_rows_nil | refine pure_rows_append ?_ ?_ | refine pure_rows_cons ?_ ?_)))⟩
def fs_streams_Trim (N : Nat) : FnS := { own := [], pure := true, fn := fun cs => match cs with
  | [c0] => (Topic.decA c0).bind fun qc0 => (streams_Trim N qc0).map fun r => .agg (Topic.row r)
  | _ => none }
theorem fs_streams_Trim_own (N : Nat) : (fs_streams_Trim N).own = [] := rfl
theorem fs_streams_Trim_pure (N : Nat) : (fs_streams_Trim N).pure = true := rfl
attribute [go_sem] fs_streams_Trim fs_streams_Trim_own fs_streams_Trim_pure
theorem fs_streams_Trim_ok (N : Nat) : FSOk Try.prog 14 (fs_streams_Trim N) := by
  refine ⟨fun cs r h => ?_, fun h => by cases h⟩
  simp only [fs_streams_Trim] at h
  split at h
  · simp only [Option.bind_eq_some_iff, Option.map_eq_some_iff] at h
    obtain ⟨q0, h0, r', hr, rfl⟩ := h
    exact (((w_streams_Trim N q0 r' hr).args (LeL.cons (Topic.decA_le h0) (LeL.nil))).res (by repeat' (first | exact ROk.refl _ | exact ROk.nil _ | ((refine ROk.of _ ?_ ?_); (focus ((repeat' (first | exact Le.refl _ | exact LeL.nil | exact Le.nils | exact LeLL.refl _ | refine LeLL.mapAppend ?_ ?_ | refine LeLL.cons ?_ ?_ | refine Le.sl ?_ | refine Le.tup ?_ | refine Le.agg ?_ | refine LeL.cons ?_ ?_)); done)); (focus ((repeat' (first | exact NoOwn.val _ | exact NoOwn.sl _ _ _ _ | refine NoOwn.tup ?_ | refine NoOwn.agg ?_ | exact noOwn_nil | refine noOwn_cons ?_ ?_)); done))) | ((refine ROk.own ?_ ?_); (focus ((repeat' (first | exact Le.refl _ | exact LeL.nil | exact Le.nils | exact LeLL.refl _ | refine LeLL.mapAppend ?_ ?_ | refine LeLL.cons ?_ ?_ | refine Le.sl ?_ | refine Le.tup ?_ | refine Le.agg ?_ | refine LeL.cons ?_ ?_)); done)); (focus ((first | exact RowOk.noOwn (rowI_ok .i64) _ | exact RowOk.noOwn Sub.row_ok _); done))) | refine ROk.agg rfl ?_ | refine ROk.tup rfl ?_ | exact rok_nil | refine rok_cons ?_ ?_)))
  · cases h

def fso_streams_Trim (N : Nat) : FnS := { own := [], pure := true, fn := fun cs => match cs with
  | [c0] => (Topic.decA c0).bind fun qc0 => (streams_Trim N qc0).map fun r => .agg [.val (.string r.Name), .val (.int .i64 r.First), .sl true none 1 none (r.Events.map (rowI .i64)), .sl true none 4 none (r.Subs.map Sub.row)]
  | _ => none }
theorem fso_streams_Trim_own (N : Nat) : (fso_streams_Trim N).own = [] := rfl
theorem fso_streams_Trim_pure (N : Nat) : (fso_streams_Trim N).pure = true := rfl
attribute [go_sem] fso_streams_Trim fso_streams_Trim_own fso_streams_Trim_pure
theorem fso_streams_Trim_ok (N : Nat) : FSOk Try.prog 14 (fso_streams_Trim N) := by
  refine ⟨fun cs r h => ?_, fun h => by cases h⟩
  simp only [fso_streams_Trim] at h
  split at h
  · simp only [Option.bind_eq_some_iff, Option.map_eq_some_iff] at h
    obtain ⟨q0, h0, r', hr, rfl⟩ := h
    exact ((w_streams_Trim N q0 r' hr).args (LeL.cons (Topic.decA_le h0) (LeL.nil)))
  · cases h

end Go.Proofs.Ytpkfhjbgnpdgcaa
end

section
set_option linter.unusedSimpArgs false
set_option linter.unusedVariables false
set_option maxRecDepth 100000
namespace Go.Proofs.Ytpkfhjbgnpdgcaa
open Go Go.Proofs Go.Abs
noncomputable def E_law30_awake (N : Nat) : Env := { T := tiOf Try.prog, G := fun d f => if d = 7 ∧ f = 7 then some (fs_streams_New N) else if d = 16 ∧ f = 11 then some (fs_streams_Subscribe N) else if d = 23 ∧ f = 10 then some (fs_streams_Publish N) else if d = 35 ∧ f = 10 then some (fs_streams_Publish N) else if d = 46 ∧ f = 15 then some (fs_streams_Pending N) else if d = 61 ∧ f = 16 then some (fs_streams_Ack N) else if d = 67 ∧ f = 14 then some (fs_streams_Trim N) else if d = 69 ∧ f = 15 then some (fs_streams_Pending N) else if d = 93 ∧ f = 17 then some (fs_streams_End N) else none, F := fun d => none }
theorem E_law30_awake_F (N : Nat) (d : Nat) : (E_law30_awake N).F d = none := rfl
theorem E_law30_awake_T (N : Nat) : (E_law30_awake N).T = tiOf Try.prog := rfl
theorem E_law30_awake_G0 (N : Nat) : (E_law30_awake N).G 7 7 = some (fs_streams_New N) := rfl
theorem E_law30_awake_G1 (N : Nat) : (E_law30_awake N).G 16 11 = some (fs_streams_Subscribe N) := rfl
theorem E_law30_awake_G2 (N : Nat) : (E_law30_awake N).G 23 10 = some (fs_streams_Publish N) := rfl
theorem E_law30_awake_G3 (N : Nat) : (E_law30_awake N).G 35 10 = some (fs_streams_Publish N) := rfl
theorem E_law30_awake_G4 (N : Nat) : (E_law30_awake N).G 46 15 = some (fs_streams_Pending N) := rfl
theorem E_law30_awake_G5 (N : Nat) : (E_law30_awake N).G 61 16 = some (fs_streams_Ack N) := rfl
theorem E_law30_awake_G6 (N : Nat) : (E_law30_awake N).G 67 14 = some (fs_streams_Trim N) := rfl
theorem E_law30_awake_G7 (N : Nat) : (E_law30_awake N).G 69 15 = some (fs_streams_Pending N) := rfl
theorem E_law30_awake_G8 (N : Nat) : (E_law30_awake N).G 93 17 = some (fs_streams_End N) := rfl
theorem E_law30_awake_ok (N : Nat) : GOk Try.prog { T := tiOf Try.prog, G := (E_law30_awake N).G } := by
  intro d f fs hfs
  simp only [E_law30_awake] at hfs
  by_cases hc : d = 7 ∧ f = 7
  · rw [if_pos hc] at hfs; obtain ⟨rfl, rfl⟩ := hc; obtain rfl := Option.some.inj hfs; exact fs_streams_New_ok N
  rw [if_neg hc] at hfs
  by_cases hc : d = 16 ∧ f = 11
  · rw [if_pos hc] at hfs; obtain ⟨rfl, rfl⟩ := hc; obtain rfl := Option.some.inj hfs; exact fs_streams_Subscribe_ok N
  rw [if_neg hc] at hfs
  by_cases hc : d = 23 ∧ f = 10
  · rw [if_pos hc] at hfs; obtain ⟨rfl, rfl⟩ := hc; obtain rfl := Option.some.inj hfs; exact fs_streams_Publish_ok N
  rw [if_neg hc] at hfs
  by_cases hc : d = 35 ∧ f = 10
  · rw [if_pos hc] at hfs; obtain ⟨rfl, rfl⟩ := hc; obtain rfl := Option.some.inj hfs; exact fs_streams_Publish_ok N
  rw [if_neg hc] at hfs
  by_cases hc : d = 46 ∧ f = 15
  · rw [if_pos hc] at hfs; obtain ⟨rfl, rfl⟩ := hc; obtain rfl := Option.some.inj hfs; exact fs_streams_Pending_ok N
  rw [if_neg hc] at hfs
  by_cases hc : d = 61 ∧ f = 16
  · rw [if_pos hc] at hfs; obtain ⟨rfl, rfl⟩ := hc; obtain rfl := Option.some.inj hfs; exact fs_streams_Ack_ok N
  rw [if_neg hc] at hfs
  by_cases hc : d = 67 ∧ f = 14
  · rw [if_pos hc] at hfs; obtain ⟨rfl, rfl⟩ := hc; obtain rfl := Option.some.inj hfs; exact fs_streams_Trim_ok N
  rw [if_neg hc] at hfs
  by_cases hc : d = 69 ∧ f = 15
  · rw [if_pos hc] at hfs; obtain ⟨rfl, rfl⟩ := hc; obtain rfl := Option.some.inj hfs; exact fs_streams_Pending_ok N
  rw [if_neg hc] at hfs
  by_cases hc : d = 93 ∧ f = 17
  · rw [if_pos hc] at hfs; obtain ⟨rfl, rfl⟩ := hc; obtain rfl := Option.some.inj hfs; exact fs_streams_End_ok N
  rw [if_neg hc] at hfs
  cases hfs
theorem fo_law30_awake : FunOk Try.prog 6 Try.f6 Try.f6.body.get! := ⟨Try.func6, rfl, by decide, by kernel_rfl⟩
attribute [go_sem] E_law30_awake_T E_law30_awake_F E_law30_awake_G0 E_law30_awake_G1 E_law30_awake_G2 E_law30_awake_G3 E_law30_awake_G4 E_law30_awake_G5 E_law30_awake_G6 E_law30_awake_G7 E_law30_awake_G8
set_option maxHeartbeats 4000000 in
theorem w_law30_awake (N : Nat)  (r : Bool) (h : law30_awake N  = some r) : Con Try.prog 6 [] true [] (.val (.bool r)) := by
  refine fun_ok3 (E := E_law30_awake N) (tiOf_ok Try.prog (E_law30_awake N).G) (E_law30_awake_ok N) mix fo_law30_awake (Nat.le_of_ble_eq_true rfl) ?_
  intro _
  rw [entry_tab (by simp)]
  rw [show entryF [] [] = deadT from by funext t; match t with  | t + 0 => rfl]
  apply Wk_start
  simp only [Try.f6, Option.get!, R0_RZ]
  unfold law30_awake at h
  refine Wk_seq ?_
  refine Wk_regionZ fun Z hZ => ?_
  simp (config := { maxSteps := 4000000 }) only [go_sem, Nat.reduceLT, Nat.reduceEqDiff, Nat.reduceAdd, Nat.reduceBEq, Nat.reduceMul, Nat.reduceSub, reduceIte, Nat.reduceLeDiff, reduceCtorEq, Int.reduceNeg, Int.reduceToNat, Int.reduceEq, Int.reduceNe, Int.reduceLT, Int.reduceLE]
  refine hZ _ ?_
  repeat (with_reducible first | refine Pop.pop ?_ | refine ap_nil_i ?_ | refine ap_lp_i ?_ | refine ap_bl_next (by decide) ?_)
  refine Wk_seq ?_
  obtain ⟨r1, hr1, h⟩ := Option.bind_eq_some_iff.1 h
  refine Wk_regionZ fun Z hZ => ?_
  simp (config := { maxSteps := 4000000 }) only [go_sem, Nat.reduceLT, Nat.reduceEqDiff, Nat.reduceAdd, Nat.reduceBEq, Nat.reduceMul, Nat.reduceSub, reduceIte, Nat.reduceLeDiff, reduceCtorEq, Int.reduceNeg, Int.reduceToNat, Int.reduceEq, Int.reduceNe, Int.reduceLT, Int.reduceLE, hr1]
  refine hZ _ ?_
  repeat (with_reducible first | refine Pop.pop ?_ | refine ap_nil_i ?_ | refine ap_lp_i ?_ | refine ap_bl_next (by decide) ?_)
  refine Wk_seq ?_
  refine Wk_seq ?_
  refine Wk_regionZ fun Z hZ => ?_
  simp (config := { maxSteps := 4000000 }) only [go_sem, Nat.reduceLT, Nat.reduceEqDiff, Nat.reduceAdd, Nat.reduceBEq, Nat.reduceMul, Nat.reduceSub, reduceIte, Nat.reduceLeDiff, reduceCtorEq, Int.reduceNeg, Int.reduceToNat, Int.reduceEq, Int.reduceNe, Int.reduceLT, Int.reduceLE, hr1]
  refine hZ _ ?_
  repeat (with_reducible first | refine Pop.pop ?_ | refine ap_nil_i ?_ | refine ap_lp_i ?_ | refine ap_bl_next (by decide) ?_)
  refine Wk_cond_ndec rfl (fun hc2 => ?_) (fun hc2 => ?_)
  · have hc2d := decide_eq_false hc2
    first | rw [if_neg hc2] at h | rw [if_neg (ne_true_of_eq_false hc2d)] at h | simp only [hc2d, Bool.not_true, Bool.not_false, Bool.false_eq_true, if_true, if_false] at h
    refine Wk_seq ?_
    refine Wk_regionZ fun Z hZ => ?_
    simp (config := { maxSteps := 4000000 }) only [go_sem, Nat.reduceLT, Nat.reduceEqDiff, Nat.reduceAdd, Nat.reduceBEq, Nat.reduceMul, Nat.reduceSub, reduceIte, Nat.reduceLeDiff, reduceCtorEq, Int.reduceNeg, Int.reduceToNat, Int.reduceEq, Int.reduceNe, Int.reduceLT, Int.reduceLE, hr1, hc2d]
    refine hZ _ ?_
    repeat (with_reducible first | refine Pop.pop ?_ | refine ap_nil_i ?_ | refine ap_lp_i ?_ | refine ap_bl_next (by decide) ?_)
    refine Wk_ret ?_
    repeat (with_reducible first | refine Pop.pop ?_ | refine ap_nil_i ?_ | refine ap_lp_i ?_ | refine ap_bl_next (by decide) ?_)
    simp (config := { maxSteps := 4000000 }) only [go_sem, Nat.reduceLT, Nat.reduceEqDiff, Nat.reduceAdd, Nat.reduceBEq, Nat.reduceMul, Nat.reduceSub, reduceIte, Nat.reduceLeDiff, reduceCtorEq, Int.reduceNeg, Int.reduceToNat, Int.reduceEq, Int.reduceNe, Int.reduceLT, Int.reduceLE, hr1, hc2d, FinW_ret, List.length_set, List.take_length]
    obtain rfl := Option.some.inj h
    exact ⟨_, rfl, (by exact ROk.refl _), (by repeat' (first | exact PureC.val _ | refine PureC.tup ?_ | refine PureC.agg ?_ | exact pure_nil | refine pure_cons ?_ ?_))⟩
  · have hc2d := decide_eq_true hc2
    first | rw [if_pos hc2] at h | rw [if_pos hc2d] at h | simp only [hc2d, Bool.not_true, Bool.not_false, Bool.false_eq_true, if_true, if_false] at h
    refine Wk_skip ?_
    repeat (with_reducible first | refine Pop.pop ?_ | refine ap_nil_i ?_ | refine ap_lp_i ?_ | refine ap_bl_next (by decide) ?_)
    refine Wk_seq ?_
    refine Wk_regionZ fun Z hZ => ?_
    simp (config := { maxSteps := 4000000 }) only [go_sem, Nat.reduceLT, Nat.reduceEqDiff, Nat.reduceAdd, Nat.reduceBEq, Nat.reduceMul, Nat.reduceSub, reduceIte, Nat.reduceLeDiff, reduceCtorEq, Int.reduceNeg, Int.reduceToNat, Int.reduceEq, Int.reduceNe, Int.reduceLT, Int.reduceLE, hr1, hc2d]
    refine hZ _ ?_
    repeat (with_reducible first | refine Pop.pop ?_ | refine ap_nil_i ?_ | refine ap_lp_i ?_ | refine ap_bl_next (by decide) ?_)
    refine Wk_seq ?_
    obtain ⟨r2, hr3, h⟩ := Option.bind_eq_some_iff.1 h
    refine Wk_regionZ fun Z hZ => ?_
    simp (config := { maxSteps := 4000000 }) only [go_sem, Nat.reduceLT, Nat.reduceEqDiff, Nat.reduceAdd, Nat.reduceBEq, Nat.reduceMul, Nat.reduceSub, reduceIte, Nat.reduceLeDiff, reduceCtorEq, Int.reduceNeg, Int.reduceToNat, Int.reduceEq, Int.reduceNe, Int.reduceLT, Int.reduceLE, hr1, hc2d, hr3]
    refine hZ _ ?_
    repeat (with_reducible first | refine Pop.pop ?_ | refine ap_nil_i ?_ | refine ap_lp_i ?_ | refine ap_bl_next (by decide) ?_)
    refine Wk_seq ?_
    refine Wk_seq ?_
    refine Wk_regionZ fun Z hZ => ?_
    simp (config := { maxSteps := 4000000 }) only [go_sem, Nat.reduceLT, Nat.reduceEqDiff, Nat.reduceAdd, Nat.reduceBEq, Nat.reduceMul, Nat.reduceSub, reduceIte, Nat.reduceLeDiff, reduceCtorEq, Int.reduceNeg, Int.reduceToNat, Int.reduceEq, Int.reduceNe, Int.reduceLT, Int.reduceLE, hr1, hc2d, hr3]
    refine hZ _ ?_
    repeat (with_reducible first | refine Pop.pop ?_ | refine ap_nil_i ?_ | refine ap_lp_i ?_ | refine ap_bl_next (by decide) ?_)
    refine Wk_cond_ndec rfl (fun hc4 => ?_) (fun hc4 => ?_)
    · have hc4d := decide_eq_false hc4
      first | rw [if_neg hc4] at h | rw [if_neg (ne_true_of_eq_false hc4d)] at h | simp only [hc4d, Bool.not_true, Bool.not_false, Bool.false_eq_true, if_true, if_false] at h
      refine Wk_seq ?_
      refine Wk_regionZ fun Z hZ => ?_
      simp (config := { maxSteps := 4000000 }) only [go_sem, Nat.reduceLT, Nat.reduceEqDiff, Nat.reduceAdd, Nat.reduceBEq, Nat.reduceMul, Nat.reduceSub, reduceIte, Nat.reduceLeDiff, reduceCtorEq, Int.reduceNeg, Int.reduceToNat, Int.reduceEq, Int.reduceNe, Int.reduceLT, Int.reduceLE, hr1, hc2d, hr3, hc4d]
      refine hZ _ ?_
      repeat (with_reducible first | refine Pop.pop ?_ | refine ap_nil_i ?_ | refine ap_lp_i ?_ | refine ap_bl_next (by decide) ?_)
      refine Wk_ret ?_
      repeat (with_reducible first | refine Pop.pop ?_ | refine ap_nil_i ?_ | refine ap_lp_i ?_ | refine ap_bl_next (by decide) ?_)
      simp (config := { maxSteps := 4000000 }) only [go_sem, Nat.reduceLT, Nat.reduceEqDiff, Nat.reduceAdd, Nat.reduceBEq, Nat.reduceMul, Nat.reduceSub, reduceIte, Nat.reduceLeDiff, reduceCtorEq, Int.reduceNeg, Int.reduceToNat, Int.reduceEq, Int.reduceNe, Int.reduceLT, Int.reduceLE, hr1, hc2d, hr3, hc4d, FinW_ret, List.length_set, List.take_length]
      obtain rfl := Option.some.inj h
      exact ⟨_, rfl, (by exact ROk.refl _), (by repeat' (first | exact PureC.val _ | refine PureC.tup ?_ | refine PureC.agg ?_ | exact pure_nil | refine pure_cons ?_ ?_))⟩
    · have hc4d := decide_eq_true hc4
      first | rw [if_pos hc4] at h | rw [if_pos hc4d] at h | simp only [hc4d, Bool.not_true, Bool.not_false, Bool.false_eq_true, if_true, if_false] at h
      refine Wk_skip ?_
      repeat (with_reducible first | refine Pop.pop ?_ | refine ap_nil_i ?_ | refine ap_lp_i ?_ | refine ap_bl_next (by decide) ?_)
      refine Wk_seq ?_
      obtain ⟨r3, hr5, h⟩ := Option.bind_eq_some_iff.1 h
      refine Wk_regionZ fun Z hZ => ?_
      simp (config := { maxSteps := 4000000 }) only [go_sem, Nat.reduceLT, Nat.reduceEqDiff, Nat.reduceAdd, Nat.reduceBEq, Nat.reduceMul, Nat.reduceSub, reduceIte, Nat.reduceLeDiff, reduceCtorEq, Int.reduceNeg, Int.reduceToNat, Int.reduceEq, Int.reduceNe, Int.reduceLT, Int.reduceLE, hr1, hc2d, hr3, hc4d, hr5]
      refine hZ _ ?_
      repeat (with_reducible first | refine Pop.pop ?_ | refine ap_nil_i ?_ | refine ap_lp_i ?_ | refine ap_bl_next (by decide) ?_)
      refine Wk_seq ?_
      apply Wk_join1 (fun (c6 : Bool) => ⟨tab 96 (updT (updT (updT deadT 1 (.pref 1 [] 0 0)) 3 (.pref 3 [] 0 0)) 32 (.val (.bool c6))), (upd (upd RZ 1 (.sl true none 4 (some 1) [[.val (.string r3.1.Name), .val (.int .i64 r3.1.First), .sl false none 1 none (r3.1.Events.map (rowI .i64)), .sl false none 4 none (r3.1.Subs.map Sub.row)]])) 3 (.sl true none 2 (some 1) [[.val (.string (⟨#[65]⟩)), .val (.string (⟨#[107]⟩))]]))⟩)
      · intro hJ6
        refine Wk_regionZ fun Z hZ => ?_
        simp (config := { maxSteps := 4000000 }) only [go_sem, Nat.reduceLT, Nat.reduceEqDiff, Nat.reduceAdd, Nat.reduceBEq, Nat.reduceMul, Nat.reduceSub, reduceIte, Nat.reduceLeDiff, reduceCtorEq, Int.reduceNeg, Int.reduceToNat, Int.reduceEq, Int.reduceNe, Int.reduceLT, Int.reduceLE, hr1, hc2d, hr3, hc4d, hr5]
        refine RX_guard_ndec rfl (fun hc7 => ?_) (fun hc7 => ?_)
        · have hc7d := decide_eq_false hc7
          first | rw [if_neg hc7] at h | rw [if_neg (ne_true_of_eq_false hc7d)] at h | simp only [hc7d, Bool.not_true, Bool.not_false, Bool.false_eq_true, if_true, if_false] at h
          simp (config := { maxSteps := 4000000 }) only [go_sem, Nat.reduceLT, Nat.reduceEqDiff, Nat.reduceAdd, Nat.reduceBEq, Nat.reduceMul, Nat.reduceSub, reduceIte, Nat.reduceLeDiff, reduceCtorEq, Int.reduceNeg, Int.reduceToNat, Int.reduceEq, Int.reduceNe, Int.reduceLT, Int.reduceLE, hr1, hc2d, hr3, hc4d, hr5, hc7d]
          refine hZ _ ?_
          repeat (with_reducible first | refine Pop.pop ?_ | refine ap_nil_i ?_ | refine ap_lp_i ?_ | refine ap_bl_next (by decide) ?_)
          refine hJ6 _ true ?_ h
          refine weak_roots ?_ ?_
          · (repeat' (first | exact weakX_nil | refine weakX_cons ?_ ?_)) <;> (first | rfl | simp only [go_sem, Nat.reduceLT, Nat.reduceEqDiff, Nat.reduceAdd, Nat.reduceBEq, Nat.reduceMul, Nat.reduceSub, reduceIte, Nat.reduceLeDiff, reduceCtorEq, Int.reduceNeg, Int.reduceToNat, Int.reduceEq, Int.reduceNe, Int.reduceLT, Int.reduceLE, Bool.or_self, List.length_set, Int.natCast_zero, Int.cast_ofNat_Int, hr1, hc2d, hr3, hc4d, hr5, hc7d])
          · (repeat' (first | exact weakR_nil | refine weakR_cons ?_ ?_ ?_)) <;> (first | rfl | simp only [go_sem, Nat.reduceLT, Nat.reduceEqDiff, Nat.reduceAdd, Nat.reduceBEq, Nat.reduceMul, Nat.reduceSub, reduceIte, Nat.reduceLeDiff, reduceCtorEq, Int.reduceNeg, Int.reduceToNat, Int.reduceEq, Int.reduceNe, Int.reduceLT, Int.reduceLE, Bool.or_self, List.length_set, Int.natCast_zero, Int.cast_ofNat_Int, hr1, hc2d, hr3, hc4d, hr5, hc7d])
        · have hc7d := decide_eq_true hc7
          first | rw [if_pos hc7] at h | rw [if_pos hc7d] at h | simp only [hc7d, Bool.not_true, Bool.not_false, Bool.false_eq_true, if_true, if_false] at h
          simp (config := { maxSteps := 4000000 }) only [go_sem, Nat.reduceLT, Nat.reduceEqDiff, Nat.reduceAdd, Nat.reduceBEq, Nat.reduceMul, Nat.reduceSub, reduceIte, Nat.reduceLeDiff, reduceCtorEq, Int.reduceNeg, Int.reduceToNat, Int.reduceEq, Int.reduceNe, Int.reduceLT, Int.reduceLE, hr1, hc2d, hr3, hc4d, hr5, hc7d]
          refine hZ _ ?_
          repeat (with_reducible first | refine Pop.pop ?_ | refine ap_nil_i ?_ | refine ap_lp_i ?_ | refine ap_bl_next (by decide) ?_)
          refine hJ6 _ (!decide (r3.2.1 = 0)) ?_ h
          refine weak_roots ?_ ?_
          · (repeat' (first | exact weakX_nil | refine weakX_cons ?_ ?_)) <;> (first | rfl | simp only [go_sem, Nat.reduceLT, Nat.reduceEqDiff, Nat.reduceAdd, Nat.reduceBEq, Nat.reduceMul, Nat.reduceSub, reduceIte, Nat.reduceLeDiff, reduceCtorEq, Int.reduceNeg, Int.reduceToNat, Int.reduceEq, Int.reduceNe, Int.reduceLT, Int.reduceLE, Bool.or_self, List.length_set, Int.natCast_zero, Int.cast_ofNat_Int, hr1, hc2d, hr3, hc4d, hr5, hc7d])
          · (repeat' (first | exact weakR_nil | refine weakR_cons ?_ ?_ ?_)) <;> (first | rfl | simp only [go_sem, Nat.reduceLT, Nat.reduceEqDiff, Nat.reduceAdd, Nat.reduceBEq, Nat.reduceMul, Nat.reduceSub, reduceIte, Nat.reduceLeDiff, reduceCtorEq, Int.reduceNeg, Int.reduceToNat, Int.reduceEq, Int.reduceNe, Int.reduceLT, Int.reduceLE, Bool.or_self, List.length_set, Int.natCast_zero, Int.cast_ofNat_Int, hr1, hc2d, hr3, hc4d, hr5, hc7d])
      · intro c6 h
        unfold law30_awake_J1 at h
        refine Wk_cond_bool rfl (fun hc8 => ?_) (fun hc8 => ?_)
        · first | rw [if_pos hc8] at h | simp only [hc8, Bool.or_false, Bool.or_true, Bool.false_or, Bool.true_or, Bool.and_true, Bool.true_and, Bool.and_false, Bool.false_and, Bool.not_true, Bool.not_false, Bool.false_eq_true, if_true, if_false] at h
          refine Wk_seq ?_
          refine Wk_regionZ fun Z hZ => ?_
          simp (config := { maxSteps := 4000000 }) only [go_sem, Nat.reduceLT, Nat.reduceEqDiff, Nat.reduceAdd, Nat.reduceBEq, Nat.reduceMul, Nat.reduceSub, reduceIte, Nat.reduceLeDiff, reduceCtorEq, Int.reduceNeg, Int.reduceToNat, Int.reduceEq, Int.reduceNe, Int.reduceLT, Int.reduceLE, hr1, hc2d, hr3, hc4d, hr5, hc8]
          refine hZ _ ?_
          repeat (with_reducible first | refine Pop.pop ?_ | refine ap_nil_i ?_ | refine ap_lp_i ?_ | refine ap_bl_next (by decide) ?_)
          refine Wk_ret ?_
          repeat (with_reducible first | refine Pop.pop ?_ | refine ap_nil_i ?_ | refine ap_lp_i ?_ | refine ap_bl_next (by decide) ?_)
          simp (config := { maxSteps := 4000000 }) only [go_sem, Nat.reduceLT, Nat.reduceEqDiff, Nat.reduceAdd, Nat.reduceBEq, Nat.reduceMul, Nat.reduceSub, reduceIte, Nat.reduceLeDiff, reduceCtorEq, Int.reduceNeg, Int.reduceToNat, Int.reduceEq, Int.reduceNe, Int.reduceLT, Int.reduceLE, hr1, hc2d, hr3, hc4d, hr5, hc8, FinW_ret, List.length_set, List.take_length]
          obtain rfl := Option.some.inj h
          exact ⟨_, rfl, (by exact ROk.refl _), (by repeat' (first | exact PureC.val _ | refine PureC.tup ?_ | refine PureC.agg ?_ | exact pure_nil | refine pure_cons ?_ ?_))⟩
        · first | rw [if_neg (ne_true_of_eq_false hc8)] at h | simp only [hc8, Bool.or_false, Bool.or_true, Bool.false_or, Bool.true_or, Bool.and_true, Bool.true_and, Bool.and_false, Bool.false_and, Bool.not_true, Bool.not_false, Bool.false_eq_true, if_true, if_false] at h
          refine Wk_skip ?_
          repeat (with_reducible first | refine Pop.pop ?_ | refine ap_nil_i ?_ | refine ap_lp_i ?_ | refine ap_bl_next (by decide) ?_)
          unfold law30_awake_J6 at h
          refine Wk_seq ?_
          obtain ⟨r7, hr9, h⟩ := Option.bind_eq_some_iff.1 h
          refine Wk_regionZ fun Z hZ => ?_
          simp (config := { maxSteps := 4000000 }) only [go_sem, Nat.reduceLT, Nat.reduceEqDiff, Nat.reduceAdd, Nat.reduceBEq, Nat.reduceMul, Nat.reduceSub, reduceIte, Nat.reduceLeDiff, reduceCtorEq, Int.reduceNeg, Int.reduceToNat, Int.reduceEq, Int.reduceNe, Int.reduceLT, Int.reduceLE, hr1, hc2d, hr3, hc4d, hr5, hc8, hr9]
          refine hZ _ ?_
          repeat (with_reducible first | refine Pop.pop ?_ | refine ap_nil_i ?_ | refine ap_lp_i ?_ | refine ap_bl_next (by decide) ?_)
          refine Wk_seq ?_
          apply Wk_join1 (fun (c10 : Bool) => ⟨tab 96 (updT (updT (updT deadT 1 (.pref 1 [] 0 0)) 3 (.pref 3 [] 0 0)) 44 (.val (.bool c10))), (upd (upd RZ 1 (.sl true none 4 (some 1) [[.val (.string r7.1.Name), .val (.int .i64 r7.1.First), .sl false none 1 none (r7.1.Events.map (rowI .i64)), .sl false none 4 none (r7.1.Subs.map Sub.row)]])) 3 (.sl true none 2 (some 1) [[.val (.string (⟨#[65]⟩)), .val (.string (⟨#[107]⟩))]]))⟩)
          · intro hJ10
            refine Wk_regionZ fun Z hZ => ?_
            simp (config := { maxSteps := 4000000 }) only [go_sem, Nat.reduceLT, Nat.reduceEqDiff, Nat.reduceAdd, Nat.reduceBEq, Nat.reduceMul, Nat.reduceSub, reduceIte, Nat.reduceLeDiff, reduceCtorEq, Int.reduceNeg, Int.reduceToNat, Int.reduceEq, Int.reduceNe, Int.reduceLT, Int.reduceLE, hr1, hc2d, hr3, hc4d, hr5, hc8, hr9]
            refine RX_guard_ndec rfl (fun hc11 => ?_) (fun hc11 => ?_)
            · have hc11d := decide_eq_false hc11
              first | rw [if_neg hc11] at h | rw [if_neg (ne_true_of_eq_false hc11d)] at h | simp only [hc11d, Bool.not_true, Bool.not_false, Bool.false_eq_true, if_true, if_false] at h
              simp (config := { maxSteps := 4000000 }) only [go_sem, Nat.reduceLT, Nat.reduceEqDiff, Nat.reduceAdd, Nat.reduceBEq, Nat.reduceMul, Nat.reduceSub, reduceIte, Nat.reduceLeDiff, reduceCtorEq, Int.reduceNeg, Int.reduceToNat, Int.reduceEq, Int.reduceNe, Int.reduceLT, Int.reduceLE, hr1, hc2d, hr3, hc4d, hr5, hc8, hr9, hc11d]
              refine hZ _ ?_
              repeat (with_reducible first | refine Pop.pop ?_ | refine ap_nil_i ?_ | refine ap_lp_i ?_ | refine ap_bl_next (by decide) ?_)
              refine hJ10 _ true ?_ h
              refine weak_roots ?_ ?_
              · (repeat' (first | exact weakX_nil | refine weakX_cons ?_ ?_)) <;> (first | rfl | simp only [go_sem, Nat.reduceLT, Nat.reduceEqDiff, Nat.reduceAdd, Nat.reduceBEq, Nat.reduceMul, Nat.reduceSub, reduceIte, Nat.reduceLeDiff, reduceCtorEq, Int.reduceNeg, Int.reduceToNat, Int.reduceEq, Int.reduceNe, Int.reduceLT, Int.reduceLE, Bool.or_self, List.length_set, Int.natCast_zero, Int.cast_ofNat_Int, hr1, hc2d, hr3, hc4d, hr5, hc8, hr9, hc11d])
              · (repeat' (first | exact weakR_nil | refine weakR_cons ?_ ?_ ?_)) <;> (first | rfl | simp only [go_sem, Nat.reduceLT, Nat.reduceEqDiff, Nat.reduceAdd, Nat.reduceBEq, Nat.reduceMul, Nat.reduceSub, reduceIte, Nat.reduceLeDiff, reduceCtorEq, Int.reduceNeg, Int.reduceToNat, Int.reduceEq, Int.reduceNe, Int.reduceLT, Int.reduceLE, Bool.or_self, List.length_set, Int.natCast_zero, Int.cast_ofNat_Int, hr1, hc2d, hr3, hc4d, hr5, hc8, hr9, hc11d])
            · have hc11d := decide_eq_true hc11
              first | rw [if_pos hc11] at h | rw [if_pos hc11d] at h | simp only [hc11d, Bool.not_true, Bool.not_false, Bool.false_eq_true, if_true, if_false] at h
              simp (config := { maxSteps := 4000000 }) only [go_sem, Nat.reduceLT, Nat.reduceEqDiff, Nat.reduceAdd, Nat.reduceBEq, Nat.reduceMul, Nat.reduceSub, reduceIte, Nat.reduceLeDiff, reduceCtorEq, Int.reduceNeg, Int.reduceToNat, Int.reduceEq, Int.reduceNe, Int.reduceLT, Int.reduceLE, hr1, hc2d, hr3, hc4d, hr5, hc8, hr9, hc11d]
              refine hZ _ ?_
              repeat (with_reducible first | refine Pop.pop ?_ | refine ap_nil_i ?_ | refine ap_lp_i ?_ | refine ap_bl_next (by decide) ?_)
              refine hJ10 _ (!decide (r7.2.1 = 1)) ?_ h
              refine weak_roots ?_ ?_
              · (repeat' (first | exact weakX_nil | refine weakX_cons ?_ ?_)) <;> (first | rfl | simp only [go_sem, Nat.reduceLT, Nat.reduceEqDiff, Nat.reduceAdd, Nat.reduceBEq, Nat.reduceMul, Nat.reduceSub, reduceIte, Nat.reduceLeDiff, reduceCtorEq, Int.reduceNeg, Int.reduceToNat, Int.reduceEq, Int.reduceNe, Int.reduceLT, Int.reduceLE, Bool.or_self, List.length_set, Int.natCast_zero, Int.cast_ofNat_Int, hr1, hc2d, hr3, hc4d, hr5, hc8, hr9, hc11d])
              · (repeat' (first | exact weakR_nil | refine weakR_cons ?_ ?_ ?_)) <;> (first | rfl | simp only [go_sem, Nat.reduceLT, Nat.reduceEqDiff, Nat.reduceAdd, Nat.reduceBEq, Nat.reduceMul, Nat.reduceSub, reduceIte, Nat.reduceLeDiff, reduceCtorEq, Int.reduceNeg, Int.reduceToNat, Int.reduceEq, Int.reduceNe, Int.reduceLT, Int.reduceLE, Bool.or_self, List.length_set, Int.natCast_zero, Int.cast_ofNat_Int, hr1, hc2d, hr3, hc4d, hr5, hc8, hr9, hc11d])
          · intro c10 h
            unfold law30_awake_J2 at h
            refine Wk_cond_bool rfl (fun hc12 => ?_) (fun hc12 => ?_)
            · first | rw [if_pos hc12] at h | simp only [hc12, hc8, Bool.or_false, Bool.or_true, Bool.false_or, Bool.true_or, Bool.and_true, Bool.true_and, Bool.and_false, Bool.false_and, Bool.not_true, Bool.not_false, Bool.false_eq_true, if_true, if_false] at h
              refine Wk_seq ?_
              refine Wk_regionZ fun Z hZ => ?_
              simp (config := { maxSteps := 4000000 }) only [go_sem, Nat.reduceLT, Nat.reduceEqDiff, Nat.reduceAdd, Nat.reduceBEq, Nat.reduceMul, Nat.reduceSub, reduceIte, Nat.reduceLeDiff, reduceCtorEq, Int.reduceNeg, Int.reduceToNat, Int.reduceEq, Int.reduceNe, Int.reduceLT, Int.reduceLE, hr1, hc2d, hr3, hc4d, hr5, hc8, hr9, hc12]
              refine hZ _ ?_
              repeat (with_reducible first | refine Pop.pop ?_ | refine ap_nil_i ?_ | refine ap_lp_i ?_ | refine ap_bl_next (by decide) ?_)
              refine Wk_ret ?_
              repeat (with_reducible first | refine Pop.pop ?_ | refine ap_nil_i ?_ | refine ap_lp_i ?_ | refine ap_bl_next (by decide) ?_)
              simp (config := { maxSteps := 4000000 }) only [go_sem, Nat.reduceLT, Nat.reduceEqDiff, Nat.reduceAdd, Nat.reduceBEq, Nat.reduceMul, Nat.reduceSub, reduceIte, Nat.reduceLeDiff, reduceCtorEq, Int.reduceNeg, Int.reduceToNat, Int.reduceEq, Int.reduceNe, Int.reduceLT, Int.reduceLE, hr1, hc2d, hr3, hc4d, hr5, hc8, hr9, hc12, FinW_ret, List.length_set, List.take_length]
              obtain rfl := Option.some.inj h
              exact ⟨_, rfl, (by exact ROk.refl _), (by repeat' (first | exact PureC.val _ | refine PureC.tup ?_ | refine PureC.agg ?_ | exact pure_nil | refine pure_cons ?_ ?_))⟩
            · first | rw [if_neg (ne_true_of_eq_false hc12)] at h | simp only [hc12, hc8, Bool.or_false, Bool.or_true, Bool.false_or, Bool.true_or, Bool.and_true, Bool.true_and, Bool.and_false, Bool.false_and, Bool.not_true, Bool.not_false, Bool.false_eq_true, if_true, if_false] at h
              refine Wk_skip ?_
              repeat (with_reducible first | refine Pop.pop ?_ | refine ap_nil_i ?_ | refine ap_lp_i ?_ | refine ap_bl_next (by decide) ?_)
              unfold law30_awake_J5 at h
              refine Wk_seq ?_
              obtain ⟨r11, hr13, h⟩ := Option.bind_eq_some_iff.1 h
              refine Wk_regionZ fun Z hZ => ?_
              simp (config := { maxSteps := 4000000 }) only [go_sem, Nat.reduceLT, Nat.reduceEqDiff, Nat.reduceAdd, Nat.reduceBEq, Nat.reduceMul, Nat.reduceSub, reduceIte, Nat.reduceLeDiff, reduceCtorEq, Int.reduceNeg, Int.reduceToNat, Int.reduceEq, Int.reduceNe, Int.reduceLT, Int.reduceLE, hr1, hc2d, hr3, hc4d, hr5, hc8, hr9, hc12, hr13]
              refine hZ _ ?_
              repeat (with_reducible first | refine Pop.pop ?_ | refine ap_nil_i ?_ | refine ap_lp_i ?_ | refine ap_bl_next (by decide) ?_)
              refine Wk_seq ?_
              apply Wk_join1 (fun (c16 : Bool) => ⟨tab 96 (updT (updT (updT deadT 1 (.pref 1 [] 0 0)) 3 (.pref 3 [] 0 0)) 57 (.val (.bool c16))), (upd (upd RZ 1 (.sl true none 4 (some 1) [[.val (.string r7.1.Name), .val (.int .i64 r7.1.First), .sl false none 1 none (r7.1.Events.map (rowI .i64)), .sl false none 4 none (r7.1.Subs.map Sub.row)]])) 3 (.sl true none 2 (some 1) [[.val (.string (⟨#[65]⟩)), .val (.string (⟨#[107]⟩))]]))⟩)
              · intro hJ14
                refine Wk_regionD fun Z hZ => ?_
                simp (config := { maxSteps := 4000000 }) only [go_sem, Nat.reduceLT, Nat.reduceEqDiff, Nat.reduceAdd, Nat.reduceBEq, Nat.reduceMul, Nat.reduceSub, reduceIte, Nat.reduceLeDiff, reduceCtorEq, Int.reduceNeg, Int.reduceToNat, Int.reduceEq, Int.reduceNe, Int.reduceLT, Int.reduceLE, hr1, hc2d, hr3, hc4d, hr5, hc8, hr9, hc12, hr13]
                repeat' ((with_reducible refine and_bar ?_ ?_); kernel_rfl)
                refine RX_guard_ndec rfl (fun hc15 => ?_) (fun hc15 => ?_)
                · have hc15d := decide_eq_false hc15
                  first | rw [if_neg hc15] at h | rw [if_neg (ne_true_of_eq_false hc15d)] at h | simp only [hc15d, Bool.not_true, Bool.not_false, Bool.false_eq_true, if_true, if_false] at h
                  simp (config := { maxSteps := 4000000 }) only [go_sem, Nat.reduceLT, Nat.reduceEqDiff, Nat.reduceAdd, Nat.reduceBEq, Nat.reduceMul, Nat.reduceSub, reduceIte, Nat.reduceLeDiff, reduceCtorEq, Int.reduceNeg, Int.reduceToNat, Int.reduceEq, Int.reduceNe, Int.reduceLT, Int.reduceLE, hr1, hc2d, hr3, hc4d, hr5, hc8, hr9, hc12, hr13, hc15d]
                  repeat' ((with_reducible refine and_bar ?_ ?_); kernel_rfl)
                  refine hZ _ (by kernel_rfl) ?_
                  repeat (with_reducible first | refine Pop.pop ?_ | refine ap_nil_i ?_ | refine ap_lp_i ?_ | refine ap_bl_next (by decide) ?_)
                  refine hJ14 _ true ?_ h
                  refine weak_roots ?_ ?_
                  · (repeat' (first | exact weakX_nil | refine weakX_cons ?_ ?_)) <;> (first | rfl | simp only [go_sem, Nat.reduceLT, Nat.reduceEqDiff, Nat.reduceAdd, Nat.reduceBEq, Nat.reduceMul, Nat.reduceSub, reduceIte, Nat.reduceLeDiff, reduceCtorEq, Int.reduceNeg, Int.reduceToNat, Int.reduceEq, Int.reduceNe, Int.reduceLT, Int.reduceLE, Bool.or_self, List.length_set, Int.natCast_zero, Int.cast_ofNat_Int, hr1, hc2d, hr3, hc4d, hr5, hc8, hr9, hc12, hr13, hc15d])
                  · (repeat' (first | exact weakR_nil | refine weakR_cons ?_ ?_ ?_)) <;> (first | rfl | simp only [go_sem, Nat.reduceLT, Nat.reduceEqDiff, Nat.reduceAdd, Nat.reduceBEq, Nat.reduceMul, Nat.reduceSub, reduceIte, Nat.reduceLeDiff, reduceCtorEq, Int.reduceNeg, Int.reduceToNat, Int.reduceEq, Int.reduceNe, Int.reduceLT, Int.reduceLE, Bool.or_self, List.length_set, Int.natCast_zero, Int.cast_ofNat_Int, hr1, hc2d, hr3, hc4d, hr5, hc8, hr9, hc12, hr13, hc15d])
                · have hc15d := decide_eq_true hc15
                  first | rw [if_pos hc15] at h | rw [if_pos hc15d] at h | simp only [hc15d, Bool.not_true, Bool.not_false, Bool.false_eq_true, if_true, if_false] at h
                  obtain ⟨x17, hb16, hx17, h⟩ := gx_some h
                  try simp only [Int.toNat_natCast, Int.reduceToNat, Int.toNat_zero] at hx17
                  try simp only [Int.ofNat_lt, Int.natCast_nonneg, true_and] at hb16
                  simp (config := { maxSteps := 4000000 }) only [go_sem, Nat.reduceLT, Nat.reduceEqDiff, Nat.reduceAdd, Nat.reduceBEq, Nat.reduceMul, Nat.reduceSub, reduceIte, Nat.reduceLeDiff, reduceCtorEq, Int.reduceNeg, Int.reduceToNat, Int.reduceEq, Int.reduceNe, Int.reduceLT, Int.reduceLE, hr1, hc2d, hr3, hc4d, hr5, hc8, hr9, hc12, hr13, hc15d, hb16, hx17]
                  repeat' ((with_reducible refine and_bar ?_ ?_); kernel_rfl)
                  refine hZ _ (by kernel_rfl) ?_
                  repeat (with_reducible first | refine Pop.pop ?_ | refine ap_nil_i ?_ | refine ap_lp_i ?_ | refine ap_bl_next (by decide) ?_)
                  refine hJ14 _ (!(sEq x17.Target.Type_ (⟨#[65]⟩) && (sEq x17.Target.Key (⟨#[107]⟩) && (sEq x17.Method (⟨#[109]⟩) && (decide (x17.Seq = 0) && decide (x17.Value = 7)))))) ?_ h
                  refine weak_roots ?_ ?_
                  · (repeat' (first | exact weakX_nil | refine weakX_cons ?_ ?_)) <;> (first | rfl | simp only [go_sem, Nat.reduceLT, Nat.reduceEqDiff, Nat.reduceAdd, Nat.reduceBEq, Nat.reduceMul, Nat.reduceSub, reduceIte, Nat.reduceLeDiff, reduceCtorEq, Int.reduceNeg, Int.reduceToNat, Int.reduceEq, Int.reduceNe, Int.reduceLT, Int.reduceLE, Bool.or_self, List.length_set, Int.natCast_zero, Int.cast_ofNat_Int, hr1, hc2d, hr3, hc4d, hr5, hc8, hr9, hc12, hr13, hc15d, hb16, hx17])
                  · (repeat' (first | exact weakR_nil | refine weakR_cons ?_ ?_ ?_)) <;> (first | rfl | simp only [go_sem, Nat.reduceLT, Nat.reduceEqDiff, Nat.reduceAdd, Nat.reduceBEq, Nat.reduceMul, Nat.reduceSub, reduceIte, Nat.reduceLeDiff, reduceCtorEq, Int.reduceNeg, Int.reduceToNat, Int.reduceEq, Int.reduceNe, Int.reduceLT, Int.reduceLE, Bool.or_self, List.length_set, Int.natCast_zero, Int.cast_ofNat_Int, hr1, hc2d, hr3, hc4d, hr5, hc8, hr9, hc12, hr13, hc15d, hb16, hx17])
              · intro c16 h
                unfold law30_awake_J3 at h
                refine Wk_cond_bool rfl (fun hc18 => ?_) (fun hc18 => ?_)
                · first | rw [if_pos hc18] at h | simp only [hc18, hc8, hc12, Bool.or_false, Bool.or_true, Bool.false_or, Bool.true_or, Bool.and_true, Bool.true_and, Bool.and_false, Bool.false_and, Bool.not_true, Bool.not_false, Bool.false_eq_true, if_true, if_false] at h
                  refine Wk_seq ?_
                  refine Wk_regionZ fun Z hZ => ?_
                  simp (config := { maxSteps := 4000000 }) only [go_sem, Nat.reduceLT, Nat.reduceEqDiff, Nat.reduceAdd, Nat.reduceBEq, Nat.reduceMul, Nat.reduceSub, reduceIte, Nat.reduceLeDiff, reduceCtorEq, Int.reduceNeg, Int.reduceToNat, Int.reduceEq, Int.reduceNe, Int.reduceLT, Int.reduceLE, hr1, hc2d, hr3, hc4d, hr5, hc8, hr9, hc12, hr13, hc18]
                  refine hZ _ ?_
                  repeat (with_reducible first | refine Pop.pop ?_ | refine ap_nil_i ?_ | refine ap_lp_i ?_ | refine ap_bl_next (by decide) ?_)
                  refine Wk_ret ?_
                  repeat (with_reducible first | refine Pop.pop ?_ | refine ap_nil_i ?_ | refine ap_lp_i ?_ | refine ap_bl_next (by decide) ?_)
                  simp (config := { maxSteps := 4000000 }) only [go_sem, Nat.reduceLT, Nat.reduceEqDiff, Nat.reduceAdd, Nat.reduceBEq, Nat.reduceMul, Nat.reduceSub, reduceIte, Nat.reduceLeDiff, reduceCtorEq, Int.reduceNeg, Int.reduceToNat, Int.reduceEq, Int.reduceNe, Int.reduceLT, Int.reduceLE, hr1, hc2d, hr3, hc4d, hr5, hc8, hr9, hc12, hr13, hc18, FinW_ret, List.length_set, List.take_length]
                  obtain rfl := Option.some.inj h
                  exact ⟨_, rfl, (by exact ROk.refl _), (by repeat' (first | exact PureC.val _ | refine PureC.tup ?_ | refine PureC.agg ?_ | exact pure_nil | refine pure_cons ?_ ?_))⟩
                · first | rw [if_neg (ne_true_of_eq_false hc18)] at h | simp only [hc18, hc8, hc12, Bool.or_false, Bool.or_true, Bool.false_or, Bool.true_or, Bool.and_true, Bool.true_and, Bool.and_false, Bool.false_and, Bool.not_true, Bool.not_false, Bool.false_eq_true, if_true, if_false] at h
                  refine Wk_skip ?_
                  repeat (with_reducible first | refine Pop.pop ?_ | refine ap_nil_i ?_ | refine ap_lp_i ?_ | refine ap_bl_next (by decide) ?_)
                  unfold law30_awake_J4 at h
                  refine Wk_seq ?_
                  obtain ⟨r18, hr19, h⟩ := Option.bind_eq_some_iff.1 h
                  refine Wk_regionZ fun Z hZ => ?_
                  simp (config := { maxSteps := 4000000 }) only [go_sem, Nat.reduceLT, Nat.reduceEqDiff, Nat.reduceAdd, Nat.reduceBEq, Nat.reduceMul, Nat.reduceSub, reduceIte, Nat.reduceLeDiff, reduceCtorEq, Int.reduceNeg, Int.reduceToNat, Int.reduceEq, Int.reduceNe, Int.reduceLT, Int.reduceLE, hr1, hc2d, hr3, hc4d, hr5, hc8, hr9, hc12, hr13, hc18, hr19]
                  refine hZ _ ?_
                  repeat (with_reducible first | refine Pop.pop ?_ | refine ap_nil_i ?_ | refine ap_lp_i ?_ | refine ap_bl_next (by decide) ?_)
                  refine Wk_seq ?_
                  refine Wk_seq ?_
                  refine Wk_regionZ fun Z hZ => ?_
                  simp (config := { maxSteps := 4000000 }) only [go_sem, Nat.reduceLT, Nat.reduceEqDiff, Nat.reduceAdd, Nat.reduceBEq, Nat.reduceMul, Nat.reduceSub, reduceIte, Nat.reduceLeDiff, reduceCtorEq, Int.reduceNeg, Int.reduceToNat, Int.reduceEq, Int.reduceNe, Int.reduceLT, Int.reduceLE, hr1, hc2d, hr3, hc4d, hr5, hc8, hr9, hc12, hr13, hc18, hr19]
                  refine hZ _ ?_
                  repeat (with_reducible first | refine Pop.pop ?_ | refine ap_nil_i ?_ | refine ap_lp_i ?_ | refine ap_bl_next (by decide) ?_)
                  refine Wk_cond_ndec rfl (fun hc20 => ?_) (fun hc20 => ?_)
                  · have hc20d := decide_eq_false hc20
                    first | rw [if_neg hc20] at h | rw [if_neg (ne_true_of_eq_false hc20d)] at h | simp only [hc20d, Bool.not_true, Bool.not_false, Bool.false_eq_true, if_true, if_false] at h
                    refine Wk_seq ?_
                    refine Wk_regionZ fun Z hZ => ?_
                    simp (config := { maxSteps := 4000000 }) only [go_sem, Nat.reduceLT, Nat.reduceEqDiff, Nat.reduceAdd, Nat.reduceBEq, Nat.reduceMul, Nat.reduceSub, reduceIte, Nat.reduceLeDiff, reduceCtorEq, Int.reduceNeg, Int.reduceToNat, Int.reduceEq, Int.reduceNe, Int.reduceLT, Int.reduceLE, hr1, hc2d, hr3, hc4d, hr5, hc8, hr9, hc12, hr13, hc18, hr19, hc20d]
                    refine hZ _ ?_
                    repeat (with_reducible first | refine Pop.pop ?_ | refine ap_nil_i ?_ | refine ap_lp_i ?_ | refine ap_bl_next (by decide) ?_)
                    refine Wk_ret ?_
                    repeat (with_reducible first | refine Pop.pop ?_ | refine ap_nil_i ?_ | refine ap_lp_i ?_ | refine ap_bl_next (by decide) ?_)
                    simp (config := { maxSteps := 4000000 }) only [go_sem, Nat.reduceLT, Nat.reduceEqDiff, Nat.reduceAdd, Nat.reduceBEq, Nat.reduceMul, Nat.reduceSub, reduceIte, Nat.reduceLeDiff, reduceCtorEq, Int.reduceNeg, Int.reduceToNat, Int.reduceEq, Int.reduceNe, Int.reduceLT, Int.reduceLE, hr1, hc2d, hr3, hc4d, hr5, hc8, hr9, hc12, hr13, hc18, hr19, hc20d, FinW_ret, List.length_set, List.take_length]
                    obtain rfl := Option.some.inj h
                    exact ⟨_, rfl, (by exact ROk.refl _), (by repeat' (first | exact PureC.val _ | refine PureC.tup ?_ | refine PureC.agg ?_ | exact pure_nil | refine pure_cons ?_ ?_))⟩
                  · have hc20d := decide_eq_true hc20
                    first | rw [if_pos hc20] at h | rw [if_pos hc20d] at h | simp only [hc20d, Bool.not_true, Bool.not_false, Bool.false_eq_true, if_true, if_false] at h
                    refine Wk_skip ?_
                    repeat (with_reducible first | refine Pop.pop ?_ | refine ap_nil_i ?_ | refine ap_lp_i ?_ | refine ap_bl_next (by decide) ?_)
                    refine Wk_seq ?_
                    obtain ⟨r19, hr21, h⟩ := Option.bind_eq_some_iff.1 h
                    refine Wk_regionZ fun Z hZ => ?_
                    simp (config := { maxSteps := 4000000 }) only [go_sem, Nat.reduceLT, Nat.reduceEqDiff, Nat.reduceAdd, Nat.reduceBEq, Nat.reduceMul, Nat.reduceSub, reduceIte, Nat.reduceLeDiff, reduceCtorEq, Int.reduceNeg, Int.reduceToNat, Int.reduceEq, Int.reduceNe, Int.reduceLT, Int.reduceLE, hr1, hc2d, hr3, hc4d, hr5, hc8, hr9, hc12, hr13, hc18, hr19, hc20d, hr21]
                    refine hZ _ ?_
                    repeat (with_reducible first | refine Pop.pop ?_ | refine ap_nil_i ?_ | refine ap_lp_i ?_ | refine ap_bl_next (by decide) ?_)
                    refine Wk_seq ?_
                    obtain ⟨r20, hr22, h⟩ := Option.bind_eq_some_iff.1 h
                    refine Wk_regionZ fun Z hZ => ?_
                    simp (config := { maxSteps := 4000000 }) only [go_sem, Nat.reduceLT, Nat.reduceEqDiff, Nat.reduceAdd, Nat.reduceBEq, Nat.reduceMul, Nat.reduceSub, reduceIte, Nat.reduceLeDiff, reduceCtorEq, Int.reduceNeg, Int.reduceToNat, Int.reduceEq, Int.reduceNe, Int.reduceLT, Int.reduceLE, hr1, hc2d, hr3, hc4d, hr5, hc8, hr9, hc12, hr13, hc18, hr19, hc20d, hr21, hr22]
                    refine hZ _ ?_
                    repeat (with_reducible first | refine Pop.pop ?_ | refine ap_nil_i ?_ | refine ap_lp_i ?_ | refine ap_bl_next (by decide) ?_)
                    refine Wk_seq ?_
                    refine Wk_regionZ fun Z hZ => ?_
                    simp (config := { maxSteps := 4000000 }) only [go_sem, Nat.reduceLT, Nat.reduceEqDiff, Nat.reduceAdd, Nat.reduceBEq, Nat.reduceMul, Nat.reduceSub, reduceIte, Nat.reduceLeDiff, reduceCtorEq, Int.reduceNeg, Int.reduceToNat, Int.reduceEq, Int.reduceNe, Int.reduceLT, Int.reduceLE, hr1, hc2d, hr3, hc4d, hr5, hc8, hr9, hc12, hr13, hc18, hr19, hc20d, hr21, hr22]
                    refine RX_guard_dec rfl (fun hc23 => ?_) (fun hc23 => ?_)
                    · have hc23d := decide_eq_true hc23
                      first | rw [if_pos hc23] at h | rw [if_pos hc23d] at h | simp only [hc23d, Bool.not_true, Bool.not_false, Bool.false_eq_true, if_true, if_false] at h
                      obtain ⟨x21, hb24, hx25, h⟩ := gx_some h
                      try simp only [Int.toNat_natCast, Int.reduceToNat, Int.toNat_zero] at hx25
                      try simp only [Int.ofNat_lt, Int.natCast_nonneg, true_and] at hb24
                      simp (config := { maxSteps := 4000000 }) only [go_sem, Nat.reduceLT, Nat.reduceEqDiff, Nat.reduceAdd, Nat.reduceBEq, Nat.reduceMul, Nat.reduceSub, reduceIte, Nat.reduceLeDiff, reduceCtorEq, Int.reduceNeg, Int.reduceToNat, Int.reduceEq, Int.reduceNe, Int.reduceLT, Int.reduceLE, hr1, hc2d, hr3, hc4d, hr5, hc8, hr9, hc12, hr13, hc18, hr19, hc20d, hr21, hr22, hc23d, hb24, hx25]
                      refine RX_guard_dec rfl (fun hc26 => ?_) (fun hc26 => ?_)
                      · have hc26d := decide_eq_true hc26
                        first | rw [if_pos hc26] at h | rw [if_pos hc26d] at h | simp only [hc26d, Bool.not_true, Bool.not_false, Bool.false_eq_true, if_true, if_false] at h
                        simp (config := { maxSteps := 4000000 }) only [go_sem, Nat.reduceLT, Nat.reduceEqDiff, Nat.reduceAdd, Nat.reduceBEq, Nat.reduceMul, Nat.reduceSub, reduceIte, Nat.reduceLeDiff, reduceCtorEq, Int.reduceNeg, Int.reduceToNat, Int.reduceEq, Int.reduceNe, Int.reduceLT, Int.reduceLE, hr1, hc2d, hr3, hc4d, hr5, hc8, hr9, hc12, hr13, hc18, hr19, hc20d, hr21, hr22, hc23d, hb24, hx25, hc26d]
                        refine RX_guard_dec rfl (fun hc27 => ?_) (fun hc27 => ?_)
                        · have hc27d := decide_eq_true hc27
                          first | rw [if_pos hc27] at h | rw [if_pos hc27d] at h | simp only [hc27d, Bool.not_true, Bool.not_false, Bool.false_eq_true, if_true, if_false] at h
                          simp (config := { maxSteps := 4000000 }) only [go_sem, Nat.reduceLT, Nat.reduceEqDiff, Nat.reduceAdd, Nat.reduceBEq, Nat.reduceMul, Nat.reduceSub, reduceIte, Nat.reduceLeDiff, reduceCtorEq, Int.reduceNeg, Int.reduceToNat, Int.reduceEq, Int.reduceNe, Int.reduceLT, Int.reduceLE, hr1, hc2d, hr3, hc4d, hr5, hc8, hr9, hc12, hr13, hc18, hr19, hc20d, hr21, hr22, hc23d, hb24, hx25, hc26d, hc27d]
                          refine RX_guard_dec rfl (fun hc28 => ?_) (fun hc28 => ?_)
                          · have hc28d := decide_eq_true hc28
                            first | rw [if_pos hc28] at h | rw [if_pos hc28d] at h | simp only [hc28d, Bool.not_true, Bool.not_false, Bool.false_eq_true, if_true, if_false] at h
                            obtain ⟨r22, hr29, h⟩ := Option.bind_eq_some_iff.1 h
                            simp (config := { maxSteps := 4000000 }) only [go_sem, Nat.reduceLT, Nat.reduceEqDiff, Nat.reduceAdd, Nat.reduceBEq, Nat.reduceMul, Nat.reduceSub, reduceIte, Nat.reduceLeDiff, reduceCtorEq, Int.reduceNeg, Int.reduceToNat, Int.reduceEq, Int.reduceNe, Int.reduceLT, Int.reduceLE, hr1, hc2d, hr3, hc4d, hr5, hc8, hr9, hc12, hr13, hc18, hr19, hc20d, hr21, hr22, hc23d, hb24, hx25, hc26d, hc27d, hc28d, hr29]
                            refine hZ _ ?_
                            repeat (with_reducible first | refine Pop.pop ?_ | refine ap_nil_i ?_ | refine ap_lp_i ?_ | refine ap_bl_next (by decide) ?_)
                            refine Wk_ret ?_
                            repeat (with_reducible first | refine Pop.pop ?_ | refine ap_nil_i ?_ | refine ap_lp_i ?_ | refine ap_bl_next (by decide) ?_)
                            simp (config := { maxSteps := 4000000 }) only [go_sem, Nat.reduceLT, Nat.reduceEqDiff, Nat.reduceAdd, Nat.reduceBEq, Nat.reduceMul, Nat.reduceSub, reduceIte, Nat.reduceLeDiff, reduceCtorEq, Int.reduceNeg, Int.reduceToNat, Int.reduceEq, Int.reduceNe, Int.reduceLT, Int.reduceLE, hr1, hc2d, hr3, hc4d, hr5, hc8, hr9, hc12, hr13, hc18, hr19, hc20d, hr21, hr22, hc23d, hb24, hx25, hc26d, hc27d, hc28d, hr29, FinW_ret, List.length_set, List.take_length]
                            obtain rfl := Option.some.inj h
                            exact ⟨_, rfl, (by exact ROk.refl _), (by repeat' (first | exact PureC.val _ | refine PureC.tup ?_ | refine PureC.agg ?_ | exact pure_nil | refine pure_cons ?_ ?_))⟩
                          · have hc28d := decide_eq_false hc28
                            first | rw [if_neg hc28] at h | rw [if_neg (ne_true_of_eq_false hc28d)] at h | simp only [hc28d, Bool.not_true, Bool.not_false, Bool.false_eq_true, if_true, if_false] at h
                            simp (config := { maxSteps := 4000000 }) only [go_sem, Nat.reduceLT, Nat.reduceEqDiff, Nat.reduceAdd, Nat.reduceBEq, Nat.reduceMul, Nat.reduceSub, reduceIte, Nat.reduceLeDiff, reduceCtorEq, Int.reduceNeg, Int.reduceToNat, Int.reduceEq, Int.reduceNe, Int.reduceLT, Int.reduceLE, hr1, hc2d, hr3, hc4d, hr5, hc8, hr9, hc12, hr13, hc18, hr19, hc20d, hr21, hr22, hc23d, hb24, hx25, hc26d, hc27d, hc28d]
                            refine hZ _ ?_
                            repeat (with_reducible first | refine Pop.pop ?_ | refine ap_nil_i ?_ | refine ap_lp_i ?_ | refine ap_bl_next (by decide) ?_)
                            refine Wk_ret ?_
                            repeat (with_reducible first | refine Pop.pop ?_ | refine ap_nil_i ?_ | refine ap_lp_i ?_ | refine ap_bl_next (by decide) ?_)
                            simp (config := { maxSteps := 4000000 }) only [go_sem, Nat.reduceLT, Nat.reduceEqDiff, Nat.reduceAdd, Nat.reduceBEq, Nat.reduceMul, Nat.reduceSub, reduceIte, Nat.reduceLeDiff, reduceCtorEq, Int.reduceNeg, Int.reduceToNat, Int.reduceEq, Int.reduceNe, Int.reduceLT, Int.reduceLE, hr1, hc2d, hr3, hc4d, hr5, hc8, hr9, hc12, hr13, hc18, hr19, hc20d, hr21, hr22, hc23d, hb24, hx25, hc26d, hc27d, hc28d, FinW_ret, List.length_set, List.take_length]
                            obtain rfl := Option.some.inj h
                            exact ⟨_, rfl, (by exact ROk.refl _), (by repeat' (first | exact PureC.val _ | refine PureC.tup ?_ | refine PureC.agg ?_ | exact pure_nil | refine pure_cons ?_ ?_))⟩
                        · have hc27d := decide_eq_false hc27
                          first | rw [if_neg hc27] at h | rw [if_neg (ne_true_of_eq_false hc27d)] at h | simp only [hc27d, Bool.not_true, Bool.not_false, Bool.false_eq_true, if_true, if_false] at h
                          simp (config := { maxSteps := 4000000 }) only [go_sem, Nat.reduceLT, Nat.reduceEqDiff, Nat.reduceAdd, Nat.reduceBEq, Nat.reduceMul, Nat.reduceSub, reduceIte, Nat.reduceLeDiff, reduceCtorEq, Int.reduceNeg, Int.reduceToNat, Int.reduceEq, Int.reduceNe, Int.reduceLT, Int.reduceLE, hr1, hc2d, hr3, hc4d, hr5, hc8, hr9, hc12, hr13, hc18, hr19, hc20d, hr21, hr22, hc23d, hb24, hx25, hc26d, hc27d]
                          refine hZ _ ?_
                          repeat (with_reducible first | refine Pop.pop ?_ | refine ap_nil_i ?_ | refine ap_lp_i ?_ | refine ap_bl_next (by decide) ?_)
                          refine Wk_ret ?_
                          repeat (with_reducible first | refine Pop.pop ?_ | refine ap_nil_i ?_ | refine ap_lp_i ?_ | refine ap_bl_next (by decide) ?_)
                          simp (config := { maxSteps := 4000000 }) only [go_sem, Nat.reduceLT, Nat.reduceEqDiff, Nat.reduceAdd, Nat.reduceBEq, Nat.reduceMul, Nat.reduceSub, reduceIte, Nat.reduceLeDiff, reduceCtorEq, Int.reduceNeg, Int.reduceToNat, Int.reduceEq, Int.reduceNe, Int.reduceLT, Int.reduceLE, hr1, hc2d, hr3, hc4d, hr5, hc8, hr9, hc12, hr13, hc18, hr19, hc20d, hr21, hr22, hc23d, hb24, hx25, hc26d, hc27d, FinW_ret, List.length_set, List.take_length]
                          obtain rfl := Option.some.inj h
                          exact ⟨_, rfl, (by exact ROk.refl _), (by repeat' (first | exact PureC.val _ | refine PureC.tup ?_ | refine PureC.agg ?_ | exact pure_nil | refine pure_cons ?_ ?_))⟩
                      · have hc26d := decide_eq_false hc26
                        first | rw [if_neg hc26] at h | rw [if_neg (ne_true_of_eq_false hc26d)] at h | simp only [hc26d, Bool.not_true, Bool.not_false, Bool.false_eq_true, if_true, if_false] at h
                        simp (config := { maxSteps := 4000000 }) only [go_sem, Nat.reduceLT, Nat.reduceEqDiff, Nat.reduceAdd, Nat.reduceBEq, Nat.reduceMul, Nat.reduceSub, reduceIte, Nat.reduceLeDiff, reduceCtorEq, Int.reduceNeg, Int.reduceToNat, Int.reduceEq, Int.reduceNe, Int.reduceLT, Int.reduceLE, hr1, hc2d, hr3, hc4d, hr5, hc8, hr9, hc12, hr13, hc18, hr19, hc20d, hr21, hr22, hc23d, hb24, hx25, hc26d]
                        refine hZ _ ?_
                        repeat (with_reducible first | refine Pop.pop ?_ | refine ap_nil_i ?_ | refine ap_lp_i ?_ | refine ap_bl_next (by decide) ?_)
                        refine Wk_ret ?_
                        repeat (with_reducible first | refine Pop.pop ?_ | refine ap_nil_i ?_ | refine ap_lp_i ?_ | refine ap_bl_next (by decide) ?_)
                        simp (config := { maxSteps := 4000000 }) only [go_sem, Nat.reduceLT, Nat.reduceEqDiff, Nat.reduceAdd, Nat.reduceBEq, Nat.reduceMul, Nat.reduceSub, reduceIte, Nat.reduceLeDiff, reduceCtorEq, Int.reduceNeg, Int.reduceToNat, Int.reduceEq, Int.reduceNe, Int.reduceLT, Int.reduceLE, hr1, hc2d, hr3, hc4d, hr5, hc8, hr9, hc12, hr13, hc18, hr19, hc20d, hr21, hr22, hc23d, hb24, hx25, hc26d, FinW_ret, List.length_set, List.take_length]
                        obtain rfl := Option.some.inj h
                        exact ⟨_, rfl, (by exact ROk.refl _), (by repeat' (first | exact PureC.val _ | refine PureC.tup ?_ | refine PureC.agg ?_ | exact pure_nil | refine pure_cons ?_ ?_))⟩
                    · have hc23d := decide_eq_false hc23
                      first | rw [if_neg hc23] at h | rw [if_neg (ne_true_of_eq_false hc23d)] at h | simp only [hc23d, Bool.not_true, Bool.not_false, Bool.false_eq_true, if_true, if_false] at h
                      simp (config := { maxSteps := 4000000 }) only [go_sem, Nat.reduceLT, Nat.reduceEqDiff, Nat.reduceAdd, Nat.reduceBEq, Nat.reduceMul, Nat.reduceSub, reduceIte, Nat.reduceLeDiff, reduceCtorEq, Int.reduceNeg, Int.reduceToNat, Int.reduceEq, Int.reduceNe, Int.reduceLT, Int.reduceLE, hr1, hc2d, hr3, hc4d, hr5, hc8, hr9, hc12, hr13, hc18, hr19, hc20d, hr21, hr22, hc23d]
                      refine hZ _ ?_
                      repeat (with_reducible first | refine Pop.pop ?_ | refine ap_nil_i ?_ | refine ap_lp_i ?_ | refine ap_bl_next (by decide) ?_)
                      refine Wk_ret ?_
                      repeat (with_reducible first | refine Pop.pop ?_ | refine ap_nil_i ?_ | refine ap_lp_i ?_ | refine ap_bl_next (by decide) ?_)
                      simp (config := { maxSteps := 4000000 }) only [go_sem, Nat.reduceLT, Nat.reduceEqDiff, Nat.reduceAdd, Nat.reduceBEq, Nat.reduceMul, Nat.reduceSub, reduceIte, Nat.reduceLeDiff, reduceCtorEq, Int.reduceNeg, Int.reduceToNat, Int.reduceEq, Int.reduceNe, Int.reduceLT, Int.reduceLE, hr1, hc2d, hr3, hc4d, hr5, hc8, hr9, hc12, hr13, hc18, hr19, hc20d, hr21, hr22, hc23d, FinW_ret, List.length_set, List.take_length]
                      obtain rfl := Option.some.inj h
                      exact ⟨_, rfl, (by exact ROk.refl _), (by repeat' (first | exact PureC.val _ | refine PureC.tup ?_ | refine PureC.agg ?_ | exact pure_nil | refine pure_cons ?_ ?_))⟩
def fs_law30_awake (N : Nat) : FnS := { own := [], pure := true, fn := fun cs => match cs with
  | [] =>  (law30_awake N ).map fun r => .val (.bool r)
  | _ => none }
theorem fs_law30_awake_own (N : Nat) : (fs_law30_awake N).own = [] := rfl
theorem fs_law30_awake_pure (N : Nat) : (fs_law30_awake N).pure = true := rfl
attribute [go_sem] fs_law30_awake fs_law30_awake_own fs_law30_awake_pure
theorem fs_law30_awake_ok (N : Nat) : FSOk Try.prog 6 (fs_law30_awake N) := by
  refine ⟨fun cs r h => ?_, fun h => by cases h⟩
  simp only [fs_law30_awake] at h
  split at h
  · simp only [Option.bind_eq_some_iff, Option.map_eq_some_iff] at h
    obtain ⟨r', hr, rfl⟩ := h
    exact ((w_law30_awake N  r' hr).args (LeL.nil))
  · cases h

end Go.Proofs.Ytpkfhjbgnpdgcaa
end

section
set_option linter.unusedSimpArgs false
set_option linter.unusedVariables false
set_option maxRecDepth 100000
namespace Go.Proofs.Ytpkfhjbgnpdgcaa
open Go Go.Proofs Go.Abs
noncomputable def E_law30_ref (N : Nat) : Env := { T := tiOf Try.prog, G := fun d f => none, F := fun d => none }
theorem E_law30_ref_F (N : Nat) (d : Nat) : (E_law30_ref N).F d = none := rfl
theorem E_law30_ref_T (N : Nat) : (E_law30_ref N).T = tiOf Try.prog := rfl
theorem E_law30_ref_ok (N : Nat) : GOk Try.prog { T := tiOf Try.prog, G := (E_law30_ref N).G } := by
  intro d f fs hfs
  cases hfs
theorem fo_law30_ref : FunOk Try.prog 12 Try.f12 Try.f12.body.get! := ⟨Try.func12, rfl, by decide, by kernel_rfl⟩
attribute [go_sem] E_law30_ref_T E_law30_ref_F
set_option maxHeartbeats 4000000 in
theorem w_law30_ref (N : Nat) (a0 : Int) (r : Ref × ByteArray) (h : law30_ref N a0 = some r) : Con Try.prog 12 [] true [.val (.int .u8 a0)] (.tup [.agg (Ref.row r.1), .val (.string r.2)]) := by
  refine fun_ok3 (E := E_law30_ref N) (tiOf_ok Try.prog (E_law30_ref N).G) (E_law30_ref_ok N) mix fo_law30_ref (Nat.le_of_ble_eq_true rfl) ?_
  intro _
  rw [entry_tab (by simp)]
  rw [show entryF [] [.val (.int .u8 a0)] = (updT deadT 0 (.val (.int .u8 a0))) from by funext t; match t with | 0 => rfl | t + 1 => rfl]
  apply Wk_start
  simp only [Try.f12, Option.get!, R0_RZ]
  unfold law30_ref at h
  refine Wk_seq ?_
  refine Wk_regionZ fun Z hZ => ?_
  simp (config := { maxSteps := 4000000 }) only [go_sem, Nat.reduceLT, Nat.reduceEqDiff, Nat.reduceAdd, Nat.reduceBEq, Nat.reduceMul, Nat.reduceSub, reduceIte, Nat.reduceLeDiff, reduceCtorEq, Int.reduceNeg, Int.reduceToNat, Int.reduceEq, Int.reduceNe, Int.reduceLT, Int.reduceLE]
  refine hZ _ ?_
  repeat (with_reducible first | refine Pop.pop ?_ | refine ap_nil_i ?_ | refine ap_lp_i ?_ | refine ap_bl_next (by decide) ?_)
  refine Wk_seq ?_
  refine Wk_regionZ fun Z hZ => ?_
  simp (config := { maxSteps := 4000000 }) only [go_sem, Nat.reduceLT, Nat.reduceEqDiff, Nat.reduceAdd, Nat.reduceBEq, Nat.reduceMul, Nat.reduceSub, reduceIte, Nat.reduceLeDiff, reduceCtorEq, Int.reduceNeg, Int.reduceToNat, Int.reduceEq, Int.reduceNe, Int.reduceLT, Int.reduceLE]
  refine hZ _ ?_
  repeat (with_reducible first | refine Pop.pop ?_ | refine ap_nil_i ?_ | refine ap_lp_i ?_ | refine ap_bl_next (by decide) ?_)
  refine Wk_seq ?_
  obtain ⟨hs1, h⟩ := sls_some h
  simp only [ByteArray.size, List.size_toArray, List.length_cons, List.length_nil, Nat.reduceAdd] at hs1
  obtain ⟨hs2, h⟩ := sls_some h
  simp only [ByteArray.size, List.size_toArray, List.length_cons, List.length_nil, Nat.reduceAdd] at hs2
  refine Wk_regionD fun Z hZ => ?_
  simp (config := { maxSteps := 4000000 }) only [go_sem, Nat.reduceLT, Nat.reduceEqDiff, Nat.reduceAdd, Nat.reduceBEq, Nat.reduceMul, Nat.reduceSub, reduceIte, Nat.reduceLeDiff, reduceCtorEq, Int.reduceNeg, Int.reduceToNat, Int.reduceEq, Int.reduceNe, Int.reduceLT, Int.reduceLE, hs1, hs2]
  repeat' ((with_reducible refine and_bar ?_ ?_); kernel_rfl)
  refine hZ _ (by kernel_rfl) ?_
  repeat (with_reducible first | refine Pop.pop ?_ | refine ap_nil_i ?_ | refine ap_lp_i ?_ | refine ap_bl_next (by decide) ?_)
  refine Wk_ret ?_
  repeat (with_reducible first | refine Pop.pop ?_ | refine ap_nil_i ?_ | refine ap_lp_i ?_ | refine ap_bl_next (by decide) ?_)
  simp (config := { maxSteps := 4000000 }) only [go_sem, Nat.reduceLT, Nat.reduceEqDiff, Nat.reduceAdd, Nat.reduceBEq, Nat.reduceMul, Nat.reduceSub, reduceIte, Nat.reduceLeDiff, reduceCtorEq, Int.reduceNeg, Int.reduceToNat, Int.reduceEq, Int.reduceNe, Int.reduceLT, Int.reduceLE, hs1, hs2, FinW_ret, List.length_set, List.take_length]
  obtain rfl := Option.some.inj h
  exact ⟨_, rfl, (by exact ROk.refl _), (by repeat' (first | exact PureC.val _ | refine PureC.tup ?_ | refine PureC.agg ?_ | exact pure_nil | refine pure_cons ?_ ?_))⟩
def fs_law30_ref (N : Nat) : FnS := { own := [], pure := true, fn := fun cs => match cs with
  | [c0] => ((decI .u8) c0).bind fun qc0 => (law30_ref N qc0).map fun r => .tup [.agg (Ref.row r.1), .val (.string r.2)]
  | _ => none }
theorem fs_law30_ref_own (N : Nat) : (fs_law30_ref N).own = [] := rfl
theorem fs_law30_ref_pure (N : Nat) : (fs_law30_ref N).pure = true := rfl
attribute [go_sem] fs_law30_ref fs_law30_ref_own fs_law30_ref_pure
theorem fs_law30_ref_ok (N : Nat) : FSOk Try.prog 12 (fs_law30_ref N) := by
  refine ⟨fun cs r h => ?_, fun h => by cases h⟩
  simp only [fs_law30_ref] at h
  split at h
  · simp only [Option.bind_eq_some_iff, Option.map_eq_some_iff] at h
    obtain ⟨q0, h0, r', hr, rfl⟩ := h
    exact ((w_law30_ref N q0 r' hr).args (LeL.cons (decI_le h0) (LeL.nil)))
  · cases h

end Go.Proofs.Ytpkfhjbgnpdgcaa
end

section
set_option linter.unusedSimpArgs false
set_option linter.unusedVariables false
set_option maxRecDepth 100000
namespace Go.Proofs.Ytpkfhjbgnpdgcaa
open Go Go.Proofs Go.Abs
noncomputable def E_slices_Delete_Sub : Env := { T := tiOf Try.prog, G := fun d f => none }
theorem E_slices_Delete_Sub_T : E_slices_Delete_Sub.T = tiOf Try.prog := rfl
theorem E_slices_Delete_Sub_F (d : Nat) : E_slices_Delete_Sub.F d = none := rfl
theorem E_slices_Delete_Sub_ok : GOk Try.prog { T := tiOf Try.prog, G := E_slices_Delete_Sub.G } := by
  intro d f fs hfs
  cases hfs
theorem fo_slices_Delete_Sub : FunOk Try.prog 32 Try.f32 Try.f32.body.get! := ⟨Try.func32, rfl, by decide, by kernel_rfl⟩
set_option maxHeartbeats 4000000 in
theorem w1_slices_Delete_Sub {α : Type} (row : α → List C) (ok : RowOk row) (l : List α) (i j : Nat) (r : List α) (hr : r = l.take i ++ l.drop j) (hij : i ≤ j) (hj : j ≤ l.length) :
    Con Try.prog 32 [true, false, false] false [.sl true none 4 none (l.map row), .val (.int .i64 i), .val (.int .i64 j)] (.sl true none 4 none (r.map row)) := by
  refine fun_own (E := E_slices_Delete_Sub) (tiOf_ok Try.prog _) E_slices_Delete_Sub_ok mix fo_slices_Delete_Sub (Nat.le_of_ble_eq_true rfl) ?_
  intro _
  rw [entry_tab (by simp)]
  rw [show entryF [true, false, false] [C.sl true none 4 none (l.map row), C.val (.int .i64 i), C.val (.int .i64 j)] = (updT (updT (updT deadT 0 (.pal 0 [] 0 l.length none)) 1 (.val (.int .i64 i))) 2 (.val (.int .i64 j))) from by funext t; match t with | 0 => simp [entryF, entryTmp, viewD, updT] | 1 => rfl | 2 => rfl | t + 3 => rfl]
  rw [show R0 [true, false, false] [C.sl true none 4 none (l.map row), C.val (.int .i64 i), C.val (.int .i64 j)] = upd RZ 0 (C.sl true none 4 none (l.map row)) from by funext t; match t with | 0 => rfl | 1 => rfl | 2 => rfl | t + 3 => rfl]
  apply W_start
  simp only [Try.f32, Option.get!]
  have hi1 : (i : Int) ≤ (j : Int) := by omega
  have hj1 : (j : Int) ≤ (l.length : Int) := by omega
  have hj0 : i ≤ l.length := by omega
  simp only [go_sem, Nat.reduceLT, Nat.reduceEqDiff, Nat.reduceAdd, Nat.reduceBEq, Nat.reduceMul, Nat.reduceSub, reduceIte, Nat.reduceLeDiff, reduceCtorEq, Int.reduceNeg, Int.reduceToNat, Int.reduceEq, Int.reduceNe, Int.reduceLT, Int.reduceLE, E_slices_Delete_Sub_T, E_slices_Delete_Sub_F, hi1, hj1, hij, hj, hj0, Nat.le_refl, RowOk.frzRows ok, RowOk.all ok, RowOk.allPlain ok, RowOk.allD ok, rewritten, RX_clear, altX, roomS, roomC, reslice2X, clearX, mem_none_le, mem_some_le, Option.map_some, Nat.zero_le, Nat.sub_zero, deepV, List.isEmpty_nil, decide_not, List.length_replicate]
  refine W_cond_dec rfl (fun hc => ?_) (fun hc => ?_)
  · have e : i = j := by omega
    subst e
    simp only [go_sem, Nat.reduceLT, Nat.reduceEqDiff, Nat.reduceAdd, Nat.reduceBEq, Nat.reduceMul, Nat.reduceSub, reduceIte, Nat.reduceLeDiff, reduceCtorEq, Int.reduceNeg, Int.reduceToNat, Int.reduceEq, Int.reduceNe, Int.reduceLT, Int.reduceLE, E_slices_Delete_Sub_T, E_slices_Delete_Sub_F, hi1, hj1, hij, hj, hj0, Nat.le_refl, RowOk.frzRows ok, RowOk.all ok, RowOk.allPlain ok, RowOk.allD ok, rewritten, RX_clear, altX, roomS, roomC, reslice2X, clearX, mem_none_le, mem_some_le, Option.map_some, Nat.zero_le, Nat.sub_zero, deepV, List.isEmpty_nil, decide_not, List.length_replicate, FinO_ret, FinO_normal]
    refine fin_own ok ?_
    rw [hr]
    simp [List.take_of_length_le]
  · have hc1 : decide ((i : Int) = (j : Int)) = false := decide_eq_false hc
    have hlt : i < j := by omega
    have hlt2 : i < l.length := by omega
    have hm3 : (l.drop j).take (l.length - j) = l.drop j := List.take_of_length_le (by simp)
    have hd : (l.drop j).length = l.length - j := by simp
    have hle : i + (l.length - j) ≤ l.length := by omega
    have hnle : ¬ l.length ≤ i + (l.length - j) := by omega
    obtain ⟨A, hA⟩ : ∃ A, setRows (List.map row l) i (List.map row (List.drop j l)) = A := ⟨_, rfl⟩
    have hAp : plainL' A := by rw [← hA]; exact plainL'_set (plainL'_map ok _) (plainL'_map ok _)
    have hAl : A.length = l.length := by rw [← hA]; simp [setRows]; omega
    obtain ⟨B, hB⟩ : ∃ B, setRows A (i + (l.length - j)) (List.replicate (l.length - (i + (l.length - j))) [C.val (Value.string ⟨#[]⟩), C.val (Value.string ⟨#[]⟩), C.val (Value.string ⟨#[]⟩), C.val (Value.int .i64 0)]) = B := ⟨_, rfl⟩
    have hBp : plainL' B := by rw [← hB]; exact plainL'_set hAp (plainL'_vals _ [Value.string ⟨#[]⟩, Value.string ⟨#[]⟩, Value.string ⟨#[]⟩, Value.int .i64 0] (by simp [Value.oneCell']))
    have hBe : B.take (i + (l.length - j)) = r.map row := by
      have := del_rows (L := l.map row) (List.replicate (l.length - (i + (l.length - j))) [C.val (Value.string ⟨#[]⟩), C.val (Value.string ⟨#[]⟩), C.val (Value.string ⟨#[]⟩), C.val (Value.int .i64 0)]) hij (by simpa using hj)
      rw [List.length_map, ← List.map_drop, hA, hB] at this
      rw [this, hr]; simp
    simp only [go_sem, Nat.reduceLT, Nat.reduceEqDiff, Nat.reduceAdd, Nat.reduceBEq, Nat.reduceMul, Nat.reduceSub, reduceIte, Nat.reduceLeDiff, reduceCtorEq, Int.reduceNeg, Int.reduceToNat, Int.reduceEq, Int.reduceNe, Int.reduceLT, Int.reduceLE, E_slices_Delete_Sub_T, E_slices_Delete_Sub_F, hi1, hj1, hij, hj, hj0, Nat.le_refl, RowOk.frzRows ok, RowOk.all ok, RowOk.allPlain ok, RowOk.allD ok, rewritten, RX_clear, altX, roomS, roomC, reslice2X, clearX, mem_none_le, mem_some_le, Option.map_some, Nat.zero_le, Nat.sub_zero, deepV, List.isEmpty_nil, decide_not, List.length_replicate, hc1, hlt, hlt2, hm3, hd, hle, hnle, hA, hAl, hAp.1, hAp.2]
    repeat' ((with_reducible refine and_bar ?_ ?_); kernel_rfl)
    simp only [go_sem, Nat.reduceLT, Nat.reduceEqDiff, Nat.reduceAdd, Nat.reduceBEq, Nat.reduceMul, Nat.reduceSub, reduceIte, Nat.reduceLeDiff, reduceCtorEq, Int.reduceNeg, Int.reduceToNat, Int.reduceEq, Int.reduceNe, Int.reduceLT, Int.reduceLE, E_slices_Delete_Sub_T, E_slices_Delete_Sub_F, hi1, hj1, hij, hj, hj0, Nat.le_refl, RowOk.frzRows ok, RowOk.all ok, RowOk.allPlain ok, RowOk.allD ok, rewritten, RX_clear, altX, roomS, roomC, reslice2X, clearX, mem_none_le, mem_some_le, Option.map_some, Nat.zero_le, Nat.sub_zero, deepV, List.isEmpty_nil, decide_not, List.length_replicate, hc1, hlt, hlt2, hm3, hd, hle, hnle, hA, hAl, hAp.1, hAp.2, hB, hBp.1, hBp.2, FinO_ret, FinO_normal]
    repeat' ((with_reducible refine and_bar ?_ ?_); kernel_rfl)
    try simp only [go_sem, Nat.reduceLT, Nat.reduceEqDiff, Nat.reduceAdd, Nat.reduceBEq, Nat.reduceMul, Nat.reduceSub, reduceIte, Nat.reduceLeDiff, reduceCtorEq, Int.reduceNeg, Int.reduceToNat, Int.reduceEq, Int.reduceNe, Int.reduceLT, Int.reduceLE, E_slices_Delete_Sub_T, E_slices_Delete_Sub_F, hi1, hj1, hij, hj, hj0, Nat.le_refl, RowOk.frzRows ok, RowOk.all ok, RowOk.allPlain ok, RowOk.allD ok, rewritten, RX_clear, altX, roomS, roomC, reslice2X, clearX, mem_none_le, mem_some_le, Option.map_some, Nat.zero_le, Nat.sub_zero, deepV, List.isEmpty_nil, decide_not, List.length_replicate, FinO_ret, FinO_normal, hBp.1, hBp.2]
    refine fin_own ok ?_
    rw [← hBe]
theorem w_slices_Delete_Sub (N : Nat) (a0 : List Sub) (a1 : Int) (a2 : Int) (r : List Sub) (h : slices_Delete_Sub N a0 a1 a2 = some r) :
    Con Try.prog 32 [true, false, false] false [.sl true none 4 none (a0.map Sub.row), .val (.int .i64 a1), .val (.int .i64 a2)] (.sl true none 4 none (r.map Sub.row)) := by
  unfold slices_Delete_Sub at h
  obtain ⟨n, m, rfl, rfl, h1, h2, h3⟩ := delM_some h
  exact w1_slices_Delete_Sub Sub.row Sub.row_ok a0 n m r (Option.some.inj h3).symm h1 h2
def fso_slices_Delete_Sub (N : Nat) : FnS := { own := [true, false, false], pure := false, fn := fun cs => match cs with
  | [c0, c1, c2] => (decO 4 Sub.dec c0).bind fun q0 => (decI .i64 c1).bind fun q1 => (decI .i64 c2).bind fun q2 => (slices_Delete_Sub N q0 q1 q2).map fun r => .sl true none 4 none (r.map Sub.row)
  | _ => none }
theorem fso_slices_Delete_Sub_own (N : Nat) : (fso_slices_Delete_Sub N).own = [true, false, false] := rfl
theorem fso_slices_Delete_Sub_pure (N : Nat) : (fso_slices_Delete_Sub N).pure = false := rfl
theorem fso_slices_Delete_Sub_peek (N : Nat) : (fso_slices_Delete_Sub N).peek = false := rfl
attribute [go_sem] fso_slices_Delete_Sub fso_slices_Delete_Sub_own fso_slices_Delete_Sub_pure fso_slices_Delete_Sub_peek
theorem fso_slices_Delete_Sub_ok (N : Nat) : FSOk Try.prog 32 (fso_slices_Delete_Sub N) := by
  refine ⟨fun cs r h => ?_, fun h => by cases h⟩
  simp only [fso_slices_Delete_Sub] at h
  split at h
  · simp only [Option.bind_eq_some_iff, Option.map_eq_some_iff] at h
    obtain ⟨q0, h0, q1, h1, q2, h2, r', hr, rfl⟩ := h
    exact (w_slices_Delete_Sub N q0 q1 q2 r' hr).argsO rfl (argsO_own (decO_ok Sub.row_ok Sub.dec_le h0) (argsO_le (decI_le h1) (argsO_le (decI_le h2) argsO_nil)))
  · cases h

end Go.Proofs.Ytpkfhjbgnpdgcaa
end

section
set_option linter.unusedSimpArgs false
set_option linter.unusedVariables false
set_option maxRecDepth 100000
namespace Go.Proofs.Ytpkfhjbgnpdgcaa
open Go Go.Proofs Go.Abs
noncomputable def E_streams_Unsubscribe (N : Nat) : Env := { T := tiOf Try.prog, G := fun d f => if d = 11 ∧ f = 19 then some (fs_streams_Valid N) else if d = 18 ∧ f = 30 then some (fs_streams_find N) else if d = 25 ∧ f = 28 then some (fso_streams_clone N) else if d = 31 ∧ f = 32 then some (fso_slices_Delete_Sub N) else none, F := fun d => none }
theorem E_streams_Unsubscribe_F (N : Nat) (d : Nat) : (E_streams_Unsubscribe N).F d = none := rfl
theorem E_streams_Unsubscribe_T (N : Nat) : (E_streams_Unsubscribe N).T = tiOf Try.prog := rfl
theorem E_streams_Unsubscribe_G0 (N : Nat) : (E_streams_Unsubscribe N).G 11 19 = some (fs_streams_Valid N) := rfl
theorem E_streams_Unsubscribe_G1 (N : Nat) : (E_streams_Unsubscribe N).G 18 30 = some (fs_streams_find N) := rfl
theorem E_streams_Unsubscribe_G2 (N : Nat) : (E_streams_Unsubscribe N).G 25 28 = some (fso_streams_clone N) := rfl
theorem E_streams_Unsubscribe_G3 (N : Nat) : (E_streams_Unsubscribe N).G 31 32 = some (fso_slices_Delete_Sub N) := rfl
theorem E_streams_Unsubscribe_ok (N : Nat) : GOk Try.prog { T := tiOf Try.prog, G := (E_streams_Unsubscribe N).G } := by
  intro d f fs hfs
  simp only [E_streams_Unsubscribe] at hfs
  by_cases hc : d = 11 ∧ f = 19
  · rw [if_pos hc] at hfs; obtain ⟨rfl, rfl⟩ := hc; obtain rfl := Option.some.inj hfs; exact fs_streams_Valid_ok N
  rw [if_neg hc] at hfs
  by_cases hc : d = 18 ∧ f = 30
  · rw [if_pos hc] at hfs; obtain ⟨rfl, rfl⟩ := hc; obtain rfl := Option.some.inj hfs; exact fs_streams_find_ok N
  rw [if_neg hc] at hfs
  by_cases hc : d = 25 ∧ f = 28
  · rw [if_pos hc] at hfs; obtain ⟨rfl, rfl⟩ := hc; obtain rfl := Option.some.inj hfs; exact fso_streams_clone_ok N
  rw [if_neg hc] at hfs
  by_cases hc : d = 31 ∧ f = 32
  · rw [if_pos hc] at hfs; obtain ⟨rfl, rfl⟩ := hc; obtain rfl := Option.some.inj hfs; exact fso_slices_Delete_Sub_ok N
  rw [if_neg hc] at hfs
  cases hfs
theorem fo_streams_Unsubscribe : FunOk Try.prog 13 Try.f13 Try.f13.body.get! := ⟨Try.func13, rfl, by decide, by kernel_rfl⟩
attribute [go_sem] E_streams_Unsubscribe_T E_streams_Unsubscribe_F E_streams_Unsubscribe_G0 E_streams_Unsubscribe_G1 E_streams_Unsubscribe_G2 E_streams_Unsubscribe_G3
set_option maxHeartbeats 4000000 in
theorem w_streams_Unsubscribe (N : Nat) (a0 : Topic) (a1 : Ref) (a2 : ByteArray) (r : Topic × Int) (h : streams_Unsubscribe N a0 a1 a2 = some r) : Con Try.prog 13 [] true [.agg [.val (.string a0.Name), .val (.int .i64 a0.First), .sl false none 1 none (a0.Events.map (rowI .i64)), .sl false none 4 none (a0.Subs.map Sub.row)], .agg [.val (.string a1.Type_), .val (.string a1.Key)], .val (.string a2)] (.tup [.agg [.val (.string r.1.Name), .val (.int .i64 r.1.First), .sl true none 1 none (r.1.Events.map (rowI .i64)), .sl true none 4 none (r.1.Subs.map Sub.row)], .val (.int .i64 r.2)]) := by
  refine fun_ok3 (E := E_streams_Unsubscribe N) (tiOf_ok Try.prog (E_streams_Unsubscribe N).G) (E_streams_Unsubscribe_ok N) mix fo_streams_Unsubscribe (Nat.le_of_ble_eq_true rfl) ?_
  intro _
  rw [entry_tab (by simp)]
  rw [show entryF [] [.agg [.val (.string a0.Name), .val (.int .i64 a0.First), .sl false none 1 none (a0.Events.map (rowI .i64)), .sl false none 4 none (a0.Subs.map Sub.row)], .agg [.val (.string a1.Type_), .val (.string a1.Key)], .val (.string a2)] = (updT (updT (updT deadT 0 (.agg [.val (.string a0.Name), .val (.int .i64 a0.First), .sl false none 1 none (a0.Events.map (rowI .i64)), .sl false none 4 none (a0.Subs.map Sub.row)])) 1 (.agg [.val (.string a1.Type_), .val (.string a1.Key)])) 2 (.val (.string a2))) from by funext t; match t with | 0 => rfl | 1 => rfl | 2 => rfl | t + 3 => rfl]
  apply Wk_start
  simp only [Try.f13, Option.get!, R0_RZ]
  unfold streams_Unsubscribe at h
  refine Wk_seq ?_
  refine Wk_regionZ fun Z hZ => ?_
  simp (config := { maxSteps := 4000000 }) only [go_sem, Nat.reduceLT, Nat.reduceEqDiff, Nat.reduceAdd, Nat.reduceBEq, Nat.reduceMul, Nat.reduceSub, reduceIte, Nat.reduceLeDiff, reduceCtorEq, Int.reduceNeg, Int.reduceToNat, Int.reduceEq, Int.reduceNe, Int.reduceLT, Int.reduceLE]
  refine hZ _ ?_
  repeat (with_reducible first | refine Pop.pop ?_ | refine ap_nil_i ?_ | refine ap_lp_i ?_ | refine ap_bl_next (by decide) ?_)
  refine Wk_seq ?_
  refine Wk_seq ?_
  obtain ⟨r1, hr1, h⟩ := Option.bind_eq_some_iff.1 h
  refine Wk_regionZ fun Z hZ => ?_
  simp (config := { maxSteps := 4000000 }) only [go_sem, Nat.reduceLT, Nat.reduceEqDiff, Nat.reduceAdd, Nat.reduceBEq, Nat.reduceMul, Nat.reduceSub, reduceIte, Nat.reduceLeDiff, reduceCtorEq, Int.reduceNeg, Int.reduceToNat, Int.reduceEq, Int.reduceNe, Int.reduceLT, Int.reduceLE, hr1]
  refine hZ _ ?_
  repeat (with_reducible first | refine Pop.pop ?_ | refine ap_nil_i ?_ | refine ap_lp_i ?_ | refine ap_bl_next (by decide) ?_)
  refine Wk_cond_nbool rfl (fun hc2 => ?_) (fun hc2 => ?_)
  · first | rw [if_neg (ne_true_of_eq_false hc2)] at h | simp only [hc2, Bool.or_false, Bool.or_true, Bool.false_or, Bool.true_or, Bool.and_true, Bool.true_and, Bool.and_false, Bool.false_and, Bool.not_true, Bool.not_false, Bool.false_eq_true, if_true, if_false] at h
    refine Wk_seq ?_
    refine Wk_regionZ fun Z hZ => ?_
    simp (config := { maxSteps := 4000000 }) only [go_sem, Nat.reduceLT, Nat.reduceEqDiff, Nat.reduceAdd, Nat.reduceBEq, Nat.reduceMul, Nat.reduceSub, reduceIte, Nat.reduceLeDiff, reduceCtorEq, Int.reduceNeg, Int.reduceToNat, Int.reduceEq, Int.reduceNe, Int.reduceLT, Int.reduceLE, hr1, hc2]
    refine hZ _ ?_
    repeat (with_reducible first | refine Pop.pop ?_ | refine ap_nil_i ?_ | refine ap_lp_i ?_ | refine ap_bl_next (by decide) ?_)
    refine Wk_ret ?_
    repeat (with_reducible first | refine Pop.pop ?_ | refine ap_nil_i ?_ | refine ap_lp_i ?_ | refine ap_bl_next (by decide) ?_)
    simp (config := { maxSteps := 4000000 }) only [go_sem, Nat.reduceLT, Nat.reduceEqDiff, Nat.reduceAdd, Nat.reduceBEq, Nat.reduceMul, Nat.reduceSub, reduceIte, Nat.reduceLeDiff, reduceCtorEq, Int.reduceNeg, Int.reduceToNat, Int.reduceEq, Int.reduceNe, Int.reduceLT, Int.reduceLE, hr1, hc2, FinW_ret, List.length_set, List.take_length]
    obtain rfl := Option.some.inj h
    exact ⟨_, rfl, (by repeat' (first | exact ROk.refl _ | exact ROk.nil _ | ((refine ROk.of _ ?_ ?_); (focus ((repeat' (first | exact Le.refl _ | exact LeL.nil | exact Le.nils | exact LeLL.refl _ | refine LeLL.mapAppend ?_ ?_ | refine LeLL.cons ?_ ?_ | refine Le.sl ?_ | refine Le.tup ?_ | refine Le.agg ?_ | refine LeL.cons ?_ ?_)); done)); (focus ((repeat' (first | exact NoOwn.val _ | exact NoOwn.sl _ _ _ _ | refine NoOwn.tup ?_ | refine NoOwn.agg ?_ | exact noOwn_nil | refine noOwn_cons ?_ ?_)); done))) | ((refine ROk.own ?_ ?_); (focus ((repeat' (first | exact Le.refl _ | exact LeL.nil | exact Le.nils | exact LeLL.refl _ | refine LeLL.mapAppend ?_ ?_ | refine LeLL.cons ?_ ?_ | refine Le.sl ?_ | refine Le.tup ?_ | refine Le.agg ?_ | refine LeL.cons ?_ ?_)); done)); (focus ((first | exact RowOk.noOwn (rowI_ok .i64) _ | exact RowOk.noOwn Sub.row_ok _); done))) | refine ROk.agg rfl ?_ | refine ROk.tup rfl ?_ | exact rok_nil | refine rok_cons ?_ ?_)), (by (repeat' (first | exact PureC.val _ | refine PureC.tup ?_ | refine PureC.agg ?_ | exact pure_nil | refine pure_cons ?_ ?_ | refine PureC.sl ?_ | exact pure_rows (pure_rowI .i64) _ | exact pure_rows Sub.row_pure _ |  exact pure_rows_nil | refine pure_rows_append ?_ ?_ | refine pure_rows_cons ?_ ?_)))⟩
  · first | rw [if_pos hc2] at h | simp only [hc2, Bool.or_false, Bool.or_true, Bool.false_or, Bool.true_or, Bool.and_true, Bool.true_and, Bool.and_false, Bool.false_and, Bool.not_true, Bool.not_false, Bool.false_eq_true, if_true, if_false] at h
    refine Wk_skip ?_
    repeat (with_reducible first | refine Pop.pop ?_ | refine ap_nil_i ?_ | refine ap_lp_i ?_ | refine ap_bl_next (by decide) ?_)
    refine Wk_seq ?_
    obtain ⟨r2, hr3, h⟩ := Option.bind_eq_some_iff.1 h
    refine Wk_regionZ fun Z hZ => ?_
    simp (config := { maxSteps := 4000000 }) only [go_sem, Nat.reduceLT, Nat.reduceEqDiff, Nat.reduceAdd, Nat.reduceBEq, Nat.reduceMul, Nat.reduceSub, reduceIte, Nat.reduceLeDiff, reduceCtorEq, Int.reduceNeg, Int.reduceToNat, Int.reduceEq, Int.reduceNe, Int.reduceLT, Int.reduceLE, hr1, hc2, hr3]
    refine hZ _ ?_
    repeat (with_reducible first | refine Pop.pop ?_ | refine ap_nil_i ?_ | refine ap_lp_i ?_ | refine ap_bl_next (by decide) ?_)
    refine Wk_seq ?_
    refine Wk_seq ?_
    refine Wk_regionZ fun Z hZ => ?_
    simp (config := { maxSteps := 4000000 }) only [go_sem, Nat.reduceLT, Nat.reduceEqDiff, Nat.reduceAdd, Nat.reduceBEq, Nat.reduceMul, Nat.reduceSub, reduceIte, Nat.reduceLeDiff, reduceCtorEq, Int.reduceNeg, Int.reduceToNat, Int.reduceEq, Int.reduceNe, Int.reduceLT, Int.reduceLE, hr1, hc2, hr3]
    refine hZ _ ?_
    repeat (with_reducible first | refine Pop.pop ?_ | refine ap_nil_i ?_ | refine ap_lp_i ?_ | refine ap_bl_next (by decide) ?_)
    refine Wk_cond_nbool rfl (fun hc4 => ?_) (fun hc4 => ?_)
    · first | rw [if_neg (ne_true_of_eq_false hc4)] at h | simp only [hc4, hc2, Bool.or_false, Bool.or_true, Bool.false_or, Bool.true_or, Bool.and_true, Bool.true_and, Bool.and_false, Bool.false_and, Bool.not_true, Bool.not_false, Bool.false_eq_true, if_true, if_false] at h
      refine Wk_seq ?_
      refine Wk_regionZ fun Z hZ => ?_
      simp (config := { maxSteps := 4000000 }) only [go_sem, Nat.reduceLT, Nat.reduceEqDiff, Nat.reduceAdd, Nat.reduceBEq, Nat.reduceMul, Nat.reduceSub, reduceIte, Nat.reduceLeDiff, reduceCtorEq, Int.reduceNeg, Int.reduceToNat, Int.reduceEq, Int.reduceNe, Int.reduceLT, Int.reduceLE, hr1, hc2, hr3, hc4]
      refine hZ _ ?_
      repeat (with_reducible first | refine Pop.pop ?_ | refine ap_nil_i ?_ | refine ap_lp_i ?_ | refine ap_bl_next (by decide) ?_)
      refine Wk_ret ?_
      repeat (with_reducible first | refine Pop.pop ?_ | refine ap_nil_i ?_ | refine ap_lp_i ?_ | refine ap_bl_next (by decide) ?_)
      simp (config := { maxSteps := 4000000 }) only [go_sem, Nat.reduceLT, Nat.reduceEqDiff, Nat.reduceAdd, Nat.reduceBEq, Nat.reduceMul, Nat.reduceSub, reduceIte, Nat.reduceLeDiff, reduceCtorEq, Int.reduceNeg, Int.reduceToNat, Int.reduceEq, Int.reduceNe, Int.reduceLT, Int.reduceLE, hr1, hc2, hr3, hc4, FinW_ret, List.length_set, List.take_length]
      obtain rfl := Option.some.inj h
      exact ⟨_, rfl, (by repeat' (first | exact ROk.refl _ | exact ROk.nil _ | ((refine ROk.of _ ?_ ?_); (focus ((repeat' (first | exact Le.refl _ | exact LeL.nil | exact Le.nils | exact LeLL.refl _ | refine LeLL.mapAppend ?_ ?_ | refine LeLL.cons ?_ ?_ | refine Le.sl ?_ | refine Le.tup ?_ | refine Le.agg ?_ | refine LeL.cons ?_ ?_)); done)); (focus ((repeat' (first | exact NoOwn.val _ | exact NoOwn.sl _ _ _ _ | refine NoOwn.tup ?_ | refine NoOwn.agg ?_ | exact noOwn_nil | refine noOwn_cons ?_ ?_)); done))) | ((refine ROk.own ?_ ?_); (focus ((repeat' (first | exact Le.refl _ | exact LeL.nil | exact Le.nils | exact LeLL.refl _ | refine LeLL.mapAppend ?_ ?_ | refine LeLL.cons ?_ ?_ | refine Le.sl ?_ | refine Le.tup ?_ | refine Le.agg ?_ | refine LeL.cons ?_ ?_)); done)); (focus ((first | exact RowOk.noOwn (rowI_ok .i64) _ | exact RowOk.noOwn Sub.row_ok _); done))) | refine ROk.agg rfl ?_ | refine ROk.tup rfl ?_ | exact rok_nil | refine rok_cons ?_ ?_)), (by (repeat' (first | exact PureC.val _ | refine PureC.tup ?_ | refine PureC.agg ?_ | exact pure_nil | refine pure_cons ?_ ?_ | refine PureC.sl ?_ | exact pure_rows (pure_rowI .i64) _ | exact pure_rows Sub.row_pure _ |  exact pure_rows_nil | refine pure_rows_append ?_ ?_ | refine pure_rows_cons ?_ ?_)))⟩
    · first | rw [if_pos hc4] at h | simp only [hc4, hc2, Bool.or_false, Bool.or_true, Bool.false_or, Bool.true_or, Bool.and_true, Bool.true_and, Bool.and_false, Bool.false_and, Bool.not_true, Bool.not_false, Bool.false_eq_true, if_true, if_false] at h
      refine Wk_skip ?_
      repeat (with_reducible first | refine Pop.pop ?_ | refine ap_nil_i ?_ | refine ap_lp_i ?_ | refine ap_bl_next (by decide) ?_)
      refine Wk_seq ?_
      obtain ⟨r3, hr5, h⟩ := Option.bind_eq_some_iff.1 h
      refine Wk_regionZ fun Z hZ => ?_
      simp (config := { maxSteps := 4000000 }) only [go_sem, Nat.reduceLT, Nat.reduceEqDiff, Nat.reduceAdd, Nat.reduceBEq, Nat.reduceMul, Nat.reduceSub, reduceIte, Nat.reduceLeDiff, reduceCtorEq, Int.reduceNeg, Int.reduceToNat, Int.reduceEq, Int.reduceNe, Int.reduceLT, Int.reduceLE, hr1, hc2, hr3, hc4, hr5]
      refine hZ _ ?_
      repeat (with_reducible first | refine Pop.pop ?_ | refine ap_nil_i ?_ | refine ap_lp_i ?_ | refine ap_bl_next (by decide) ?_)
      refine Wk_seq ?_
      obtain ⟨r4, hr6, h⟩ := Option.bind_eq_some_iff.1 h
      refine Wk_regionZ fun Z hZ => ?_
      simp (config := { maxSteps := 4000000 }) only [go_sem, Nat.reduceLT, Nat.reduceEqDiff, Nat.reduceAdd, Nat.reduceBEq, Nat.reduceMul, Nat.reduceSub, reduceIte, Nat.reduceLeDiff, reduceCtorEq, Int.reduceNeg, Int.reduceToNat, Int.reduceEq, Int.reduceNe, Int.reduceLT, Int.reduceLE, hr1, hc2, hr3, hc4, hr5, hr6]
      refine hZ _ ?_
      repeat (with_reducible first | refine Pop.pop ?_ | refine ap_nil_i ?_ | refine ap_lp_i ?_ | refine ap_bl_next (by decide) ?_)
      refine Wk_seq ?_
      refine Wk_regionZ fun Z hZ => ?_
      simp (config := { maxSteps := 4000000 }) only [go_sem, Nat.reduceLT, Nat.reduceEqDiff, Nat.reduceAdd, Nat.reduceBEq, Nat.reduceMul, Nat.reduceSub, reduceIte, Nat.reduceLeDiff, reduceCtorEq, Int.reduceNeg, Int.reduceToNat, Int.reduceEq, Int.reduceNe, Int.reduceLT, Int.reduceLE, hr1, hc2, hr3, hc4, hr5, hr6]
      refine hZ _ ?_
      repeat (with_reducible first | refine Pop.pop ?_ | refine ap_nil_i ?_ | refine ap_lp_i ?_ | refine ap_bl_next (by decide) ?_)
      refine Wk_ret ?_
      repeat (with_reducible first | refine Pop.pop ?_ | refine ap_nil_i ?_ | refine ap_lp_i ?_ | refine ap_bl_next (by decide) ?_)
      simp (config := { maxSteps := 4000000 }) only [go_sem, Nat.reduceLT, Nat.reduceEqDiff, Nat.reduceAdd, Nat.reduceBEq, Nat.reduceMul, Nat.reduceSub, reduceIte, Nat.reduceLeDiff, reduceCtorEq, Int.reduceNeg, Int.reduceToNat, Int.reduceEq, Int.reduceNe, Int.reduceLT, Int.reduceLE, hr1, hc2, hr3, hc4, hr5, hr6, FinW_ret, List.length_set, List.take_length]
      obtain rfl := Option.some.inj h
      exact ⟨_, rfl, (by repeat' (first | exact ROk.refl _ | exact ROk.nil _ | ((refine ROk.of _ ?_ ?_); (focus ((repeat' (first | exact Le.refl _ | exact LeL.nil | exact Le.nils | exact LeLL.refl _ | refine LeLL.mapAppend ?_ ?_ | refine LeLL.cons ?_ ?_ | refine Le.sl ?_ | refine Le.tup ?_ | refine Le.agg ?_ | refine LeL.cons ?_ ?_)); done)); (focus ((repeat' (first | exact NoOwn.val _ | exact NoOwn.sl _ _ _ _ | refine NoOwn.tup ?_ | refine NoOwn.agg ?_ | exact noOwn_nil | refine noOwn_cons ?_ ?_)); done))) | ((refine ROk.own ?_ ?_); (focus ((repeat' (first | exact Le.refl _ | exact LeL.nil | exact Le.nils | exact LeLL.refl _ | refine LeLL.mapAppend ?_ ?_ | refine LeLL.cons ?_ ?_ | refine Le.sl ?_ | refine Le.tup ?_ | refine Le.agg ?_ | refine LeL.cons ?_ ?_)); done)); (focus ((first | exact RowOk.noOwn (rowI_ok .i64) _ | exact RowOk.noOwn Sub.row_ok _); done))) | refine ROk.agg rfl ?_ | refine ROk.tup rfl ?_ | exact rok_nil | refine rok_cons ?_ ?_)), (by (repeat' (first | exact PureC.val _ | refine PureC.tup ?_ | refine PureC.agg ?_ | exact pure_nil | refine pure_cons ?_ ?_ | refine PureC.sl ?_ | exact pure_rows (pure_rowI .i64) _ | exact pure_rows Sub.row_pure _ |  exact pure_rows_nil | refine pure_rows_append ?_ ?_ | refine pure_rows_cons ?_ ?_)))⟩
def fs_streams_Unsubscribe (N : Nat) : FnS := { own := [], pure := true, fn := fun cs => match cs with
  | [c0, c1, c2] => (Topic.decA c0).bind fun qc0 => (Ref.decA c1).bind fun qc1 => (decS c2).bind fun qc2 => (streams_Unsubscribe N qc0 qc1 qc2).map fun r => .tup [.agg (Topic.row r.1), .val (.int .i64 r.2)]
  | _ => none }
theorem fs_streams_Unsubscribe_own (N : Nat) : (fs_streams_Unsubscribe N).own = [] := rfl
theorem fs_streams_Unsubscribe_pure (N : Nat) : (fs_streams_Unsubscribe N).pure = true := rfl
attribute [go_sem] fs_streams_Unsubscribe fs_streams_Unsubscribe_own fs_streams_Unsubscribe_pure
theorem fs_streams_Unsubscribe_ok (N : Nat) : FSOk Try.prog 13 (fs_streams_Unsubscribe N) := by
  refine ⟨fun cs r h => ?_, fun h => by cases h⟩
  simp only [fs_streams_Unsubscribe] at h
  split at h
  · simp only [Option.bind_eq_some_iff, Option.map_eq_some_iff] at h
    obtain ⟨q0, h0, q1, h1, q2, h2, r', hr, rfl⟩ := h
    exact (((w_streams_Unsubscribe N q0 q1 q2 r' hr).args (LeL.cons (Topic.decA_le h0) (LeL.cons (Ref.decA_le h1) (LeL.cons (decS_le h2) (LeL.nil))))).res (by repeat' (first | exact ROk.refl _ | exact ROk.nil _ | ((refine ROk.of _ ?_ ?_); (focus ((repeat' (first | exact Le.refl _ | exact LeL.nil | exact Le.nils | exact LeLL.refl _ | refine LeLL.mapAppend ?_ ?_ | refine LeLL.cons ?_ ?_ | refine Le.sl ?_ | refine Le.tup ?_ | refine Le.agg ?_ | refine LeL.cons ?_ ?_)); done)); (focus ((repeat' (first | exact NoOwn.val _ | exact NoOwn.sl _ _ _ _ | refine NoOwn.tup ?_ | refine NoOwn.agg ?_ | exact noOwn_nil | refine noOwn_cons ?_ ?_)); done))) | ((refine ROk.own ?_ ?_); (focus ((repeat' (first | exact Le.refl _ | exact LeL.nil | exact Le.nils | exact LeLL.refl _ | refine LeLL.mapAppend ?_ ?_ | refine LeLL.cons ?_ ?_ | refine Le.sl ?_ | refine Le.tup ?_ | refine Le.agg ?_ | refine LeL.cons ?_ ?_)); done)); (focus ((first | exact RowOk.noOwn (rowI_ok .i64) _ | exact RowOk.noOwn Sub.row_ok _); done))) | refine ROk.agg rfl ?_ | refine ROk.tup rfl ?_ | exact rok_nil | refine rok_cons ?_ ?_)))
  · cases h

def fso_streams_Unsubscribe (N : Nat) : FnS := { own := [], pure := true, fn := fun cs => match cs with
  | [c0, c1, c2] => (Topic.decA c0).bind fun qc0 => (Ref.decA c1).bind fun qc1 => (decS c2).bind fun qc2 => (streams_Unsubscribe N qc0 qc1 qc2).map fun r => .tup [.agg [.val (.string r.1.Name), .val (.int .i64 r.1.First), .sl true none 1 none (r.1.Events.map (rowI .i64)), .sl true none 4 none (r.1.Subs.map Sub.row)], .val (.int .i64 r.2)]
  | _ => none }
theorem fso_streams_Unsubscribe_own (N : Nat) : (fso_streams_Unsubscribe N).own = [] := rfl
theorem fso_streams_Unsubscribe_pure (N : Nat) : (fso_streams_Unsubscribe N).pure = true := rfl
attribute [go_sem] fso_streams_Unsubscribe fso_streams_Unsubscribe_own fso_streams_Unsubscribe_pure
theorem fso_streams_Unsubscribe_ok (N : Nat) : FSOk Try.prog 13 (fso_streams_Unsubscribe N) := by
  refine ⟨fun cs r h => ?_, fun h => by cases h⟩
  simp only [fso_streams_Unsubscribe] at h
  split at h
  · simp only [Option.bind_eq_some_iff, Option.map_eq_some_iff] at h
    obtain ⟨q0, h0, q1, h1, q2, h2, r', hr, rfl⟩ := h
    exact ((w_streams_Unsubscribe N q0 q1 q2 r' hr).args (LeL.cons (Topic.decA_le h0) (LeL.cons (Ref.decA_le h1) (LeL.cons (decS_le h2) (LeL.nil)))))
  · cases h

end Go.Proofs.Ytpkfhjbgnpdgcaa
end

section
set_option linter.unusedSimpArgs false
set_option linter.unusedVariables false
set_option maxRecDepth 100000
namespace Go.Proofs.Ytpkfhjbgnpdgcaa
open Go Go.Proofs Go.Abs
noncomputable def E_law30_StreamsOnce (N : Nat) : Env := { T := tiOf Try.prog, G := fun d f => if d = 29 ∧ f = 6 then some (fs_law30_awake N) else if d = 40 ∧ f = 7 then some (fs_streams_New N) else if d = 59 ∧ f = 10 then some (fs_streams_Publish N) else if d = 69 ∧ f = 11 then some (fs_streams_Subscribe N) else if d = 86 ∧ f = 12 then some (fs_law30_ref N) else if d = 146 ∧ f = 10 then some (fs_streams_Publish N) else if d = 167 ∧ f = 11 then some (fs_streams_Subscribe N) else if d = 179 ∧ f = 13 then some (fs_streams_Unsubscribe N) else if d = 188 ∧ f = 14 then some (fs_streams_Trim N) else if d = 96 ∧ f = 15 then some (fs_streams_Pending N) else if d = 120 ∧ f = 16 then some (fs_streams_Ack N) else if d = 211 ∧ f = 15 then some (fs_streams_Pending N) else none, F := fun d => none }
theorem E_law30_StreamsOnce_F (N : Nat) (d : Nat) : (E_law30_StreamsOnce N).F d = none := rfl
theorem E_law30_StreamsOnce_T (N : Nat) : (E_law30_StreamsOnce N).T = tiOf Try.prog := rfl
theorem E_law30_StreamsOnce_G0 (N : Nat) : (E_law30_StreamsOnce N).G 29 6 = some (fs_law30_awake N) := rfl
theorem E_law30_StreamsOnce_G1 (N : Nat) : (E_law30_StreamsOnce N).G 40 7 = some (fs_streams_New N) := rfl
theorem E_law30_StreamsOnce_G2 (N : Nat) : (E_law30_StreamsOnce N).G 59 10 = some (fs_streams_Publish N) := rfl
theorem E_law30_StreamsOnce_G3 (N : Nat) : (E_law30_StreamsOnce N).G 69 11 = some (fs_streams_Subscribe N) := rfl
theorem E_law30_StreamsOnce_G4 (N : Nat) : (E_law30_StreamsOnce N).G 86 12 = some (fs_law30_ref N) := rfl
theorem E_law30_StreamsOnce_G5 (N : Nat) : (E_law30_StreamsOnce N).G 146 10 = some (fs_streams_Publish N) := rfl
theorem E_law30_StreamsOnce_G6 (N : Nat) : (E_law30_StreamsOnce N).G 167 11 = some (fs_streams_Subscribe N) := rfl
theorem E_law30_StreamsOnce_G7 (N : Nat) : (E_law30_StreamsOnce N).G 179 13 = some (fs_streams_Unsubscribe N) := rfl
theorem E_law30_StreamsOnce_G8 (N : Nat) : (E_law30_StreamsOnce N).G 188 14 = some (fs_streams_Trim N) := rfl
theorem E_law30_StreamsOnce_G9 (N : Nat) : (E_law30_StreamsOnce N).G 96 15 = some (fs_streams_Pending N) := rfl
theorem E_law30_StreamsOnce_G10 (N : Nat) : (E_law30_StreamsOnce N).G 120 16 = some (fs_streams_Ack N) := rfl
theorem E_law30_StreamsOnce_G11 (N : Nat) : (E_law30_StreamsOnce N).G 211 15 = some (fs_streams_Pending N) := rfl
theorem E_law30_StreamsOnce_ok (N : Nat) : GOk Try.prog { T := tiOf Try.prog, G := (E_law30_StreamsOnce N).G } := by
  intro d f fs hfs
  simp only [E_law30_StreamsOnce] at hfs
  by_cases hc : d = 29 ∧ f = 6
  · rw [if_pos hc] at hfs; obtain ⟨rfl, rfl⟩ := hc; obtain rfl := Option.some.inj hfs; exact fs_law30_awake_ok N
  rw [if_neg hc] at hfs
  by_cases hc : d = 40 ∧ f = 7
  · rw [if_pos hc] at hfs; obtain ⟨rfl, rfl⟩ := hc; obtain rfl := Option.some.inj hfs; exact fs_streams_New_ok N
  rw [if_neg hc] at hfs
  by_cases hc : d = 59 ∧ f = 10
  · rw [if_pos hc] at hfs; obtain ⟨rfl, rfl⟩ := hc; obtain rfl := Option.some.inj hfs; exact fs_streams_Publish_ok N
  rw [if_neg hc] at hfs
  by_cases hc : d = 69 ∧ f = 11
  · rw [if_pos hc] at hfs; obtain ⟨rfl, rfl⟩ := hc; obtain rfl := Option.some.inj hfs; exact fs_streams_Subscribe_ok N
  rw [if_neg hc] at hfs
  by_cases hc : d = 86 ∧ f = 12
  · rw [if_pos hc] at hfs; obtain ⟨rfl, rfl⟩ := hc; obtain rfl := Option.some.inj hfs; exact fs_law30_ref_ok N
  rw [if_neg hc] at hfs
  by_cases hc : d = 146 ∧ f = 10
  · rw [if_pos hc] at hfs; obtain ⟨rfl, rfl⟩ := hc; obtain rfl := Option.some.inj hfs; exact fs_streams_Publish_ok N
  rw [if_neg hc] at hfs
  by_cases hc : d = 167 ∧ f = 11
  · rw [if_pos hc] at hfs; obtain ⟨rfl, rfl⟩ := hc; obtain rfl := Option.some.inj hfs; exact fs_streams_Subscribe_ok N
  rw [if_neg hc] at hfs
  by_cases hc : d = 179 ∧ f = 13
  · rw [if_pos hc] at hfs; obtain ⟨rfl, rfl⟩ := hc; obtain rfl := Option.some.inj hfs; exact fs_streams_Unsubscribe_ok N
  rw [if_neg hc] at hfs
  by_cases hc : d = 188 ∧ f = 14
  · rw [if_pos hc] at hfs; obtain ⟨rfl, rfl⟩ := hc; obtain rfl := Option.some.inj hfs; exact fs_streams_Trim_ok N
  rw [if_neg hc] at hfs
  by_cases hc : d = 96 ∧ f = 15
  · rw [if_pos hc] at hfs; obtain ⟨rfl, rfl⟩ := hc; obtain rfl := Option.some.inj hfs; exact fs_streams_Pending_ok N
  rw [if_neg hc] at hfs
  by_cases hc : d = 120 ∧ f = 16
  · rw [if_pos hc] at hfs; obtain ⟨rfl, rfl⟩ := hc; obtain rfl := Option.some.inj hfs; exact fs_streams_Ack_ok N
  rw [if_neg hc] at hfs
  by_cases hc : d = 211 ∧ f = 15
  · rw [if_pos hc] at hfs; obtain ⟨rfl, rfl⟩ := hc; obtain rfl := Option.some.inj hfs; exact fs_streams_Pending_ok N
  rw [if_neg hc] at hfs
  cases hfs
theorem fo_law30_StreamsOnce : FunOk Try.prog 4 Try.f4 Try.f4.body.get! := ⟨Try.func4, rfl, by decide, by kernel_rfl⟩
attribute [go_sem] E_law30_StreamsOnce_T E_law30_StreamsOnce_F E_law30_StreamsOnce_G0 E_law30_StreamsOnce_G1 E_law30_StreamsOnce_G2 E_law30_StreamsOnce_G3 E_law30_StreamsOnce_G4 E_law30_StreamsOnce_G5 E_law30_StreamsOnce_G6 E_law30_StreamsOnce_G7 E_law30_StreamsOnce_G8 E_law30_StreamsOnce_G9 E_law30_StreamsOnce_G10 E_law30_StreamsOnce_G11
set_option maxHeartbeats 4000000 in
theorem w_law30_StreamsOnce (N : Nat) (a0 : (List Int)) (a1 : (List actorgridlaw30_Act)) (r : Bool) (h : law30_StreamsOnce N a0 a1 = some r) : Con Try.prog 4 [] true [.sl false none 1 none (a0.map (rowI .i64)), .sl false none 3 none (a1.map actorgridlaw30_Act.row)] (.val (.bool r)) := by
  refine fun_ok3 (E := E_law30_StreamsOnce N) (tiOf_ok Try.prog (E_law30_StreamsOnce N).G) (E_law30_StreamsOnce_ok N) mix fo_law30_StreamsOnce (Nat.le_of_ble_eq_true rfl) ?_
  intro _
  rw [entry_tab (by simp)]
  rw [show entryF [] [.sl false none 1 none (a0.map (rowI .i64)), .sl false none 3 none (a1.map actorgridlaw30_Act.row)] = (updT (updT deadT 0 (.sl false none 1 none (a0.map (rowI .i64)))) 1 (.sl false none 3 none (a1.map actorgridlaw30_Act.row))) from by funext t; match t with | 0 => rfl | 1 => rfl | t + 2 => rfl]
  apply Wk_start
  simp only [Try.f4, Option.get!, R0_RZ]
  unfold law30_StreamsOnce at h
  refine Wk_seq ?_
  refine Wk_regionZ fun Z hZ => ?_
  simp (config := { maxSteps := 4000000 }) only [go_sem, Nat.reduceLT, Nat.reduceEqDiff, Nat.reduceAdd, Nat.reduceBEq, Nat.reduceMul, Nat.reduceSub, reduceIte, Nat.reduceLeDiff, reduceCtorEq, Int.reduceNeg, Int.reduceToNat, Int.reduceEq, Int.reduceNe, Int.reduceLT, Int.reduceLE]
  refine hZ _ ?_
  repeat (with_reducible first | refine Pop.pop ?_ | refine ap_nil_i ?_ | refine ap_lp_i ?_ | refine ap_bl_next (by decide) ?_)
  refine Wk_seq ?_
  refine Wk_seq ?_
  obtain ⟨r1, hr1, h⟩ := Option.bind_eq_some_iff.1 h
  refine Wk_regionZ fun Z hZ => ?_
  simp (config := { maxSteps := 4000000 }) only [go_sem, Nat.reduceLT, Nat.reduceEqDiff, Nat.reduceAdd, Nat.reduceBEq, Nat.reduceMul, Nat.reduceSub, reduceIte, Nat.reduceLeDiff, reduceCtorEq, Int.reduceNeg, Int.reduceToNat, Int.reduceEq, Int.reduceNe, Int.reduceLT, Int.reduceLE, hr1]
  refine hZ _ ?_
  repeat (with_reducible first | refine Pop.pop ?_ | refine ap_nil_i ?_ | refine ap_lp_i ?_ | refine ap_bl_next (by decide) ?_)
  refine Wk_cond_nbool rfl (fun hc2 => ?_) (fun hc2 => ?_)
  · first | rw [if_neg (ne_true_of_eq_false hc2)] at h | simp only [hc2, Bool.or_false, Bool.or_true, Bool.false_or, Bool.true_or, Bool.and_true, Bool.true_and, Bool.and_false, Bool.false_and, Bool.not_true, Bool.not_false, Bool.false_eq_true, if_true, if_false] at h
    refine Wk_seq ?_
    refine Wk_regionZ fun Z hZ => ?_
    simp (config := { maxSteps := 4000000 }) only [go_sem, Nat.reduceLT, Nat.reduceEqDiff, Nat.reduceAdd, Nat.reduceBEq, Nat.reduceMul, Nat.reduceSub, reduceIte, Nat.reduceLeDiff, reduceCtorEq, Int.reduceNeg, Int.reduceToNat, Int.reduceEq, Int.reduceNe, Int.reduceLT, Int.reduceLE, hr1, hc2]
    refine hZ _ ?_
    repeat (with_reducible first | refine Pop.pop ?_ | refine ap_nil_i ?_ | refine ap_lp_i ?_ | refine ap_bl_next (by decide) ?_)
    refine Wk_ret ?_
    repeat (with_reducible first | refine Pop.pop ?_ | refine ap_nil_i ?_ | refine ap_lp_i ?_ | refine ap_bl_next (by decide) ?_)
    simp (config := { maxSteps := 4000000 }) only [go_sem, Nat.reduceLT, Nat.reduceEqDiff, Nat.reduceAdd, Nat.reduceBEq, Nat.reduceMul, Nat.reduceSub, reduceIte, Nat.reduceLeDiff, reduceCtorEq, Int.reduceNeg, Int.reduceToNat, Int.reduceEq, Int.reduceNe, Int.reduceLT, Int.reduceLE, hr1, hc2, FinW_ret, List.length_set, List.take_length]
    obtain rfl := Option.some.inj h
    exact ⟨_, rfl, (by exact ROk.refl _), (by repeat' (first | exact PureC.val _ | refine PureC.tup ?_ | refine PureC.agg ?_ | exact pure_nil | refine pure_cons ?_ ?_))⟩
  · first | rw [if_pos hc2] at h | simp only [hc2, Bool.or_false, Bool.or_true, Bool.false_or, Bool.true_or, Bool.and_true, Bool.true_and, Bool.and_false, Bool.false_and, Bool.not_true, Bool.not_false, Bool.false_eq_true, if_true, if_false] at h
    refine Wk_skip ?_
    repeat (with_reducible first | refine Pop.pop ?_ | refine ap_nil_i ?_ | refine ap_lp_i ?_ | refine ap_bl_next (by decide) ?_)
    refine Wk_seq ?_
    apply Wk_join1 (fun (c4 : Bool) => ⟨tab 244 (updT (updT (updT deadT 0 (.sl false none 1 none (a0.map (rowI .i64)))) 1 (.sl false none 3 none (a1.map actorgridlaw30_Act.row))) 38 (.val (.bool c4))), RZ⟩)
    · intro hJ3
      refine Wk_regionZ fun Z hZ => ?_
      simp (config := { maxSteps := 4000000 }) only [go_sem, Nat.reduceLT, Nat.reduceEqDiff, Nat.reduceAdd, Nat.reduceBEq, Nat.reduceMul, Nat.reduceSub, reduceIte, Nat.reduceLeDiff, reduceCtorEq, Int.reduceNeg, Int.reduceToNat, Int.reduceEq, Int.reduceNe, Int.reduceLT, Int.reduceLE, hr1, hc2]
      refine RX_guard_dec rfl (fun hc4 => ?_) (fun hc4 => ?_)
      · have hc4d := decide_eq_true hc4
        first | rw [if_pos hc4] at h | rw [if_pos hc4d] at h | simp only [hc4d, Bool.not_true, Bool.not_false, Bool.false_eq_true, if_true, if_false] at h
        simp (config := { maxSteps := 4000000 }) only [go_sem, Nat.reduceLT, Nat.reduceEqDiff, Nat.reduceAdd, Nat.reduceBEq, Nat.reduceMul, Nat.reduceSub, reduceIte, Nat.reduceLeDiff, reduceCtorEq, Int.reduceNeg, Int.reduceToNat, Int.reduceEq, Int.reduceNe, Int.reduceLT, Int.reduceLE, hr1, hc2, hc4d]
        refine hZ _ ?_
        repeat (with_reducible first | refine Pop.pop ?_ | refine ap_nil_i ?_ | refine ap_lp_i ?_ | refine ap_bl_next (by decide) ?_)
        refine hJ3 _ true ?_ h
        refine weak_roots ?_ ?_
        · (repeat' (first | exact weakX_nil | refine weakX_cons ?_ ?_)) <;> (first | rfl | simp only [go_sem, Nat.reduceLT, Nat.reduceEqDiff, Nat.reduceAdd, Nat.reduceBEq, Nat.reduceMul, Nat.reduceSub, reduceIte, Nat.reduceLeDiff, reduceCtorEq, Int.reduceNeg, Int.reduceToNat, Int.reduceEq, Int.reduceNe, Int.reduceLT, Int.reduceLE, Bool.or_self, List.length_set, Int.natCast_zero, Int.cast_ofNat_Int, hr1, hc2, hc4d])
        · (repeat' (first | exact weakR_nil | refine weakR_cons ?_ ?_ ?_)) <;> (first | rfl | simp only [go_sem, Nat.reduceLT, Nat.reduceEqDiff, Nat.reduceAdd, Nat.reduceBEq, Nat.reduceMul, Nat.reduceSub, reduceIte, Nat.reduceLeDiff, reduceCtorEq, Int.reduceNeg, Int.reduceToNat, Int.reduceEq, Int.reduceNe, Int.reduceLT, Int.reduceLE, Bool.or_self, List.length_set, Int.natCast_zero, Int.cast_ofNat_Int, hr1, hc2, hc4d])
      · have hc4d := decide_eq_false hc4
        first | rw [if_neg hc4] at h | rw [if_neg (ne_true_of_eq_false hc4d)] at h | simp only [hc4d, Bool.not_true, Bool.not_false, Bool.false_eq_true, if_true, if_false] at h
        simp (config := { maxSteps := 4000000 }) only [go_sem, Nat.reduceLT, Nat.reduceEqDiff, Nat.reduceAdd, Nat.reduceBEq, Nat.reduceMul, Nat.reduceSub, reduceIte, Nat.reduceLeDiff, reduceCtorEq, Int.reduceNeg, Int.reduceToNat, Int.reduceEq, Int.reduceNe, Int.reduceLT, Int.reduceLE, hr1, hc2, hc4d]
        refine hZ _ ?_
        repeat (with_reducible first | refine Pop.pop ?_ | refine ap_nil_i ?_ | refine ap_lp_i ?_ | refine ap_bl_next (by decide) ?_)
        refine hJ3 _ (decide (150 < ((a1.length : Nat) : Int))) ?_ h
        refine weak_roots ?_ ?_
        · (repeat' (first | exact weakX_nil | refine weakX_cons ?_ ?_)) <;> (first | rfl | simp only [go_sem, Nat.reduceLT, Nat.reduceEqDiff, Nat.reduceAdd, Nat.reduceBEq, Nat.reduceMul, Nat.reduceSub, reduceIte, Nat.reduceLeDiff, reduceCtorEq, Int.reduceNeg, Int.reduceToNat, Int.reduceEq, Int.reduceNe, Int.reduceLT, Int.reduceLE, Bool.or_self, List.length_set, Int.natCast_zero, Int.cast_ofNat_Int, hr1, hc2, hc4d])
        · (repeat' (first | exact weakR_nil | refine weakR_cons ?_ ?_ ?_)) <;> (first | rfl | simp only [go_sem, Nat.reduceLT, Nat.reduceEqDiff, Nat.reduceAdd, Nat.reduceBEq, Nat.reduceMul, Nat.reduceSub, reduceIte, Nat.reduceLeDiff, reduceCtorEq, Int.reduceNeg, Int.reduceToNat, Int.reduceEq, Int.reduceNe, Int.reduceLT, Int.reduceLE, Bool.or_self, List.length_set, Int.natCast_zero, Int.cast_ofNat_Int, hr1, hc2, hc4d])
    · intro c4 h
      unfold law30_StreamsOnce_J1 at h
      refine Wk_cond_bool rfl (fun hc5 => ?_) (fun hc5 => ?_)
      · first | rw [if_pos hc5] at h | simp only [hc5, hc2, Bool.or_false, Bool.or_true, Bool.false_or, Bool.true_or, Bool.and_true, Bool.true_and, Bool.and_false, Bool.false_and, Bool.not_true, Bool.not_false, Bool.false_eq_true, if_true, if_false] at h
        refine Wk_seq ?_
        refine Wk_regionZ fun Z hZ => ?_
        simp (config := { maxSteps := 4000000 }) only [go_sem, Nat.reduceLT, Nat.reduceEqDiff, Nat.reduceAdd, Nat.reduceBEq, Nat.reduceMul, Nat.reduceSub, reduceIte, Nat.reduceLeDiff, reduceCtorEq, Int.reduceNeg, Int.reduceToNat, Int.reduceEq, Int.reduceNe, Int.reduceLT, Int.reduceLE, hr1, hc2, hc5]
        refine hZ _ ?_
        repeat (with_reducible first | refine Pop.pop ?_ | refine ap_nil_i ?_ | refine ap_lp_i ?_ | refine ap_bl_next (by decide) ?_)
        refine Wk_ret ?_
        repeat (with_reducible first | refine Pop.pop ?_ | refine ap_nil_i ?_ | refine ap_lp_i ?_ | refine ap_bl_next (by decide) ?_)
        simp (config := { maxSteps := 4000000 }) only [go_sem, Nat.reduceLT, Nat.reduceEqDiff, Nat.reduceAdd, Nat.reduceBEq, Nat.reduceMul, Nat.reduceSub, reduceIte, Nat.reduceLeDiff, reduceCtorEq, Int.reduceNeg, Int.reduceToNat, Int.reduceEq, Int.reduceNe, Int.reduceLT, Int.reduceLE, hr1, hc2, hc5, FinW_ret, List.length_set, List.take_length]
        obtain rfl := Option.some.inj h
        exact ⟨_, rfl, (by exact ROk.refl _), (by repeat' (first | exact PureC.val _ | refine PureC.tup ?_ | refine PureC.agg ?_ | exact pure_nil | refine pure_cons ?_ ?_))⟩
      · first | rw [if_neg (ne_true_of_eq_false hc5)] at h | simp only [hc5, hc2, Bool.or_false, Bool.or_true, Bool.false_or, Bool.true_or, Bool.and_true, Bool.true_and, Bool.and_false, Bool.false_and, Bool.not_true, Bool.not_false, Bool.false_eq_true, if_true, if_false] at h
        refine Wk_skip ?_
        repeat (with_reducible first | refine Pop.pop ?_ | refine ap_nil_i ?_ | refine ap_lp_i ?_ | refine ap_bl_next (by decide) ?_)
        unfold law30_StreamsOnce_J7 at h
        refine Wk_seq ?_
        obtain ⟨r5, hr6, h⟩ := Option.bind_eq_some_iff.1 h
        refine Wk_regionZ fun Z hZ => ?_
        simp (config := { maxSteps := 4000000 }) only [go_sem, Nat.reduceLT, Nat.reduceEqDiff, Nat.reduceAdd, Nat.reduceBEq, Nat.reduceMul, Nat.reduceSub, reduceIte, Nat.reduceLeDiff, reduceCtorEq, Int.reduceNeg, Int.reduceToNat, Int.reduceEq, Int.reduceNe, Int.reduceLT, Int.reduceLE, hr1, hc2, hc5, hr6]
        refine hZ _ ?_
        repeat (with_reducible first | refine Pop.pop ?_ | refine ap_nil_i ?_ | refine ap_lp_i ?_ | refine ap_bl_next (by decide) ?_)
        apply Wk_join5 (fun (s20 : ByteArray) (v21 : Int) (l22 : List Int) (l23 : List Sub) (v24 : Int) => ⟨tab 244 (updT (updT (updT deadT 1 (.sl false none 3 none (a1.map actorgridlaw30_Act.row))) 5 (.pref 5 [] 0 0)) 6 (.val (.int .i64 v24))), (upd RZ 5 (.sl true none 4 (some 1) [[.val (.string s20), .val (.int .i64 v21), .sl false none 1 none (l22.map (rowI .i64)), .sl false none 4 none (l23.map Sub.row)]]))⟩)
        · intro hJ7
          refine Wk_seq ?_
          refine Wk_regionZ fun Z hZ => ?_
          simp (config := { maxSteps := 4000000 }) only [go_sem, Nat.reduceLT, Nat.reduceEqDiff, Nat.reduceAdd, Nat.reduceBEq, Nat.reduceMul, Nat.reduceSub, reduceIte, Nat.reduceLeDiff, reduceCtorEq, Int.reduceNeg, Int.reduceToNat, Int.reduceEq, Int.reduceNe, Int.reduceLT, Int.reduceLE, hr1, hc2, hc5, hr6]
          refine hZ _ ?_
          repeat (with_reducible first | refine Pop.pop ?_ | refine ap_nil_i ?_ | refine ap_lp_i ?_ | refine ap_bl_next (by decide) ?_)
          refine Wk_block ?_
          refine Wk_real fun hreal9 => ?_
          have hl8 := hreal9.lenT 0 (by decide) (by simp only [go_sem, Nat.reduceLT, Nat.reduceEqDiff, Nat.reduceAdd, Nat.reduceBEq, Nat.reduceMul, Nat.reduceSub, reduceIte, Nat.reduceLeDiff, reduceCtorEq, Int.reduceNeg, Int.reduceToNat, Int.reduceEq, Int.reduceNe, Int.reduceLT, Int.reduceLE, Bool.or_self, List.length_set, Int.natCast_zero, Int.cast_ofNat_Int, hr1, hc2, hc5, hr6]; rfl)
          rw [List.length_map] at hl8
          refine Wk_range (fun (v13 : Nat) (b : ByteArray × Int × List Int × List Sub × Int) => ⟨tab 244 (updT (updT (updT (updT (updT deadT 0 (.sl false none 1 none (a0.map (rowI .i64)))) 1 (.sl false none 3 none (a1.map actorgridlaw30_Act.row))) 5 (.pref 5 [] 0 0)) 6 (.val (.int .i64 b.2.2.2.2))) 7 (.val (.int .i64 ((v13 : Nat) : Int)))), (upd RZ 5 (.sl true none 4 (some 1) [[.val (.string b.1), .val (.int .i64 b.2.1), .sl false none 1 none (b.2.2.1.map (rowI .i64)), .sl false none 4 none (b.2.2.2.1.map Sub.row)]]))⟩) (r5.1.Name, r5.1.First, r5.1.Events, r5.1.Subs, r5.2) h ?_ ?_
          · refine weak_roots ?_ ?_
            · (repeat' (first | exact weakX_nil | refine weakX_cons ?_ ?_)) <;> (first | rfl | simp only [go_sem, Nat.reduceLT, Nat.reduceEqDiff, Nat.reduceAdd, Nat.reduceBEq, Nat.reduceMul, Nat.reduceSub, reduceIte, Nat.reduceLeDiff, reduceCtorEq, Int.reduceNeg, Int.reduceToNat, Int.reduceEq, Int.reduceNe, Int.reduceLT, Int.reduceLE, Bool.or_self, List.length_set, Int.natCast_zero, Int.cast_ofNat_Int, hr1, hc2, hc5, hr6])
            · (repeat' (first | exact weakR_nil | refine weakR_cons ?_ ?_ ?_)) <;> (first | rfl | simp only [go_sem, Nat.reduceLT, Nat.reduceEqDiff, Nat.reduceAdd, Nat.reduceBEq, Nat.reduceMul, Nat.reduceSub, reduceIte, Nat.reduceLeDiff, reduceCtorEq, Int.reduceNeg, Int.reduceToNat, Int.reduceEq, Int.reduceNe, Int.reduceLT, Int.reduceLE, Bool.or_self, List.length_set, Int.natCast_zero, Int.cast_ofNat_Int, hr1, hc2, hc5, hr6])
          · rintro v13 ⟨s8, v9, l10, l11, v12⟩ hi10 h -
            rcases drop_cases a0 v13 hi10 with ⟨x17, hi10', hx11, hd13⟩ | ⟨hi10', _, hd13⟩
            · rw [hd13] at h
              simp only [law30_StreamsOnce_L1] at h
              have hw12 := wrap_succ hi10' hl8
              refine Wk_seq ?_
              refine Wk_seq ?_
              try simp only [Int.ofNat_lt, hi10', if_true, if_false] at h
              refine Wk_regionZ fun Z hZ => ?_
              simp (config := { maxSteps := 4000000 }) only [go_sem, Nat.reduceLT, Nat.reduceEqDiff, Nat.reduceAdd, Nat.reduceBEq, Nat.reduceMul, Nat.reduceSub, reduceIte, Nat.reduceLeDiff, reduceCtorEq, Int.reduceNeg, Int.reduceToNat, Int.reduceEq, Int.reduceNe, Int.reduceLT, Int.reduceLE, hr1, hc2, hc5, hr6, hx11, hi10', hw12]
              refine hZ _ ?_
              repeat (with_reducible first | refine Pop.pop ?_ | refine ap_nil_i ?_ | refine ap_lp_i ?_ | refine ap_bl_next (by decide) ?_)
              refine Wk_cond_dec rfl (fun hc14 => ?_) (fun hc14 => ?_)
              · have hc14d := decide_eq_true hc14
                first | rw [if_pos hc14] at h | rw [if_pos hc14d] at h | simp only [hc14d, Bool.not_true, Bool.not_false, Bool.false_eq_true, if_true, if_false] at h
                refine Wk_skip ?_
                repeat (with_reducible first | refine Pop.pop ?_ | refine ap_nil_i ?_ | refine ap_lp_i ?_ | refine ap_bl_next (by decide) ?_)
                refine Wk_seq ?_
                refine Wk_block ?_
                try rw [gx_nat hx11] at h
                obtain ⟨r25, hr15, h⟩ := Option.bind_eq_some_iff.1 h
                refine Wk_regionD fun Z hZ => ?_
                simp (config := { maxSteps := 4000000 }) only [go_sem, Nat.reduceLT, Nat.reduceEqDiff, Nat.reduceAdd, Nat.reduceBEq, Nat.reduceMul, Nat.reduceSub, reduceIte, Nat.reduceLeDiff, reduceCtorEq, Int.reduceNeg, Int.reduceToNat, Int.reduceEq, Int.reduceNe, Int.reduceLT, Int.reduceLE, hr1, hc2, hc5, hr6, hx11, hi10', hw12, hc14d, hr15]
                repeat' ((with_reducible refine and_bar ?_ ?_); kernel_rfl)
                refine hZ _ (by kernel_rfl) ?_
                repeat (with_reducible first | refine Pop.pop ?_ | refine ap_nil_i ?_ | refine ap_lp_i ?_ | refine ap_bl_next (by decide) ?_)
                refine Wk_regionZ fun Z hZ => ?_
                simp (config := { maxSteps := 4000000 }) only [go_sem, Nat.reduceLT, Nat.reduceEqDiff, Nat.reduceAdd, Nat.reduceBEq, Nat.reduceMul, Nat.reduceSub, reduceIte, Nat.reduceLeDiff, reduceCtorEq, Int.reduceNeg, Int.reduceToNat, Int.reduceEq, Int.reduceNe, Int.reduceLT, Int.reduceLE, hr1, hc2, hc5, hr6, hx11, hi10', hw12, hc14d, hr15]
                refine hZ _ ?_
                repeat (with_reducible first | refine Pop.pop ?_ | refine ap_nil_i ?_ | refine ap_lp_i ?_ | refine ap_bl_next (by decide) ?_)
                first | refine ⟨(r25.1.Name, r25.1.First, r25.1.Events, r25.1.Subs, r25.2.2), ?_, h⟩ | refine ⟨hi10', (r25.1.Name, r25.1.First, r25.1.Events, r25.1.Subs, r25.2.2), ?_, h⟩
                refine weak_roots ?_ ?_
                · (repeat' (first | exact weakX_nil | refine weakX_cons ?_ ?_)) <;> (first | rfl | simp only [go_sem, Nat.reduceLT, Nat.reduceEqDiff, Nat.reduceAdd, Nat.reduceBEq, Nat.reduceMul, Nat.reduceSub, reduceIte, Nat.reduceLeDiff, reduceCtorEq, Int.reduceNeg, Int.reduceToNat, Int.reduceEq, Int.reduceNe, Int.reduceLT, Int.reduceLE, Bool.or_self, List.length_set, Int.natCast_zero, Int.cast_ofNat_Int, hr1, hc2, hc5, hr6, hx11, hi10', hw12, hc14d, hr15])
                · (repeat' (first | exact weakR_nil | refine weakR_cons ?_ ?_ ?_)) <;> (first | rfl | simp only [go_sem, Nat.reduceLT, Nat.reduceEqDiff, Nat.reduceAdd, Nat.reduceBEq, Nat.reduceMul, Nat.reduceSub, reduceIte, Nat.reduceLeDiff, reduceCtorEq, Int.reduceNeg, Int.reduceToNat, Int.reduceEq, Int.reduceNe, Int.reduceLT, Int.reduceLE, Bool.or_self, List.length_set, Int.natCast_zero, Int.cast_ofNat_Int, hr1, hc2, hc5, hr6, hx11, hi10', hw12, hc14d, hr15])
              · have hc14d := decide_eq_false hc14
                first | rw [if_neg hc14] at h | rw [if_neg (ne_true_of_eq_false hc14d)] at h | simp only [hc14d, Bool.not_true, Bool.not_false, Bool.false_eq_true, if_true, if_false] at h
                refine Wk_exit ?_
                repeat (with_reducible first | refine Pop.pop ?_ | refine ap_nil_i ?_ | refine ap_lp_i ?_ | refine ap_bl_next (by decide) ?_)
                refine hJ7 _ s8 v9 l10 l11 v12 ?_ h
                refine weak_roots ?_ ?_
                · (repeat' (first | exact weakX_nil | refine weakX_cons ?_ ?_)) <;> (first | rfl | simp only [go_sem, Nat.reduceLT, Nat.reduceEqDiff, Nat.reduceAdd, Nat.reduceBEq, Nat.reduceMul, Nat.reduceSub, reduceIte, Nat.reduceLeDiff, reduceCtorEq, Int.reduceNeg, Int.reduceToNat, Int.reduceEq, Int.reduceNe, Int.reduceLT, Int.reduceLE, Bool.or_self, List.length_set, Int.natCast_zero, Int.cast_ofNat_Int, hr1, hc2, hc5, hr6, hx11, hi10', hw12, hc14d])
                · (repeat' (first | exact weakR_nil | refine weakR_cons ?_ ?_ ?_)) <;> (first | rfl | simp only [go_sem, Nat.reduceLT, Nat.reduceEqDiff, Nat.reduceAdd, Nat.reduceBEq, Nat.reduceMul, Nat.reduceSub, reduceIte, Nat.reduceLeDiff, reduceCtorEq, Int.reduceNeg, Int.reduceToNat, Int.reduceEq, Int.reduceNe, Int.reduceLT, Int.reduceLE, Bool.or_self, List.length_set, Int.natCast_zero, Int.cast_ofNat_Int, hr1, hc2, hc5, hr6, hx11, hi10', hw12, hc14d])
            · rw [hd13] at h
              simp only [law30_StreamsOnce_L1] at h
              refine Wk_seq ?_
              refine Wk_seq ?_
              try simp only [Int.ofNat_lt, hi10', if_true, if_false] at h
              refine Wk_regionZ fun Z hZ => ?_
              simp (config := { maxSteps := 4000000 }) only [go_sem, Nat.reduceLT, Nat.reduceEqDiff, Nat.reduceAdd, Nat.reduceBEq, Nat.reduceMul, Nat.reduceSub, reduceIte, Nat.reduceLeDiff, reduceCtorEq, Int.reduceNeg, Int.reduceToNat, Int.reduceEq, Int.reduceNe, Int.reduceLT, Int.reduceLE, hr1, hc2, hc5, hr6, hi10']
              refine hZ _ ?_
              repeat (with_reducible first | refine Pop.pop ?_ | refine ap_nil_i ?_ | refine ap_lp_i ?_ | refine ap_bl_next (by decide) ?_)
              refine Wk_cond_f rfl ?_
              first | rw [if_pos (rfl : true = true)] at h | rw [if_neg Bool.false_ne_true] at h | skip
              refine Wk_exit ?_
              repeat (with_reducible first | refine Pop.pop ?_ | refine ap_nil_i ?_ | refine ap_lp_i ?_ | refine ap_bl_next (by decide) ?_)
              refine hJ7 _ s8 v9 l10 l11 v12 ?_ h
              refine weak_roots ?_ ?_
              · (repeat' (first | exact weakX_nil | refine weakX_cons ?_ ?_)) <;> (first | rfl | simp only [go_sem, Nat.reduceLT, Nat.reduceEqDiff, Nat.reduceAdd, Nat.reduceBEq, Nat.reduceMul, Nat.reduceSub, reduceIte, Nat.reduceLeDiff, reduceCtorEq, Int.reduceNeg, Int.reduceToNat, Int.reduceEq, Int.reduceNe, Int.reduceLT, Int.reduceLE, Bool.or_self, List.length_set, Int.natCast_zero, Int.cast_ofNat_Int, hr1, hc2, hc5, hr6, hi10'])
              · (repeat' (first | exact weakR_nil | refine weakR_cons ?_ ?_ ?_)) <;> (first | rfl | simp only [go_sem, Nat.reduceLT, Nat.reduceEqDiff, Nat.reduceAdd, Nat.reduceBEq, Nat.reduceMul, Nat.reduceSub, reduceIte, Nat.reduceLeDiff, reduceCtorEq, Int.reduceNeg, Int.reduceToNat, Int.reduceEq, Int.reduceNe, Int.reduceLT, Int.reduceLE, Bool.or_self, List.length_set, Int.natCast_zero, Int.cast_ofNat_Int, hr1, hc2, hc5, hr6, hi10'])
        · intro s20 v21 l22 l23 v24 h
          unfold law30_StreamsOnce_J6 at h
          refine Wk_seq ?_
          refine Wk_seq ?_
          refine Wk_regionZ fun Z hZ => ?_
          simp (config := { maxSteps := 4000000 }) only [go_sem, Nat.reduceLT, Nat.reduceEqDiff, Nat.reduceAdd, Nat.reduceBEq, Nat.reduceMul, Nat.reduceSub, reduceIte, Nat.reduceLeDiff, reduceCtorEq, Int.reduceNeg, Int.reduceToNat, Int.reduceEq, Int.reduceNe, Int.reduceLT, Int.reduceLE, hr1, hc2, hc5, hr6]
          refine hZ _ ?_
          repeat (with_reducible first | refine Pop.pop ?_ | refine ap_nil_i ?_ | refine ap_lp_i ?_ | refine ap_bl_next (by decide) ?_)
          refine Wk_cond_ndec rfl (fun hc16 => ?_) (fun hc16 => ?_)
          · have hc16d := decide_eq_false hc16
            first | rw [if_neg hc16] at h | rw [if_neg (ne_true_of_eq_false hc16d)] at h | simp only [hc16d, Bool.not_true, Bool.not_false, Bool.false_eq_true, if_true, if_false] at h
            refine Wk_seq ?_
            refine Wk_regionZ fun Z hZ => ?_
            simp (config := { maxSteps := 4000000 }) only [go_sem, Nat.reduceLT, Nat.reduceEqDiff, Nat.reduceAdd, Nat.reduceBEq, Nat.reduceMul, Nat.reduceSub, reduceIte, Nat.reduceLeDiff, reduceCtorEq, Int.reduceNeg, Int.reduceToNat, Int.reduceEq, Int.reduceNe, Int.reduceLT, Int.reduceLE, hr1, hc2, hc5, hr6, hc16d]
            refine hZ _ ?_
            repeat (with_reducible first | refine Pop.pop ?_ | refine ap_nil_i ?_ | refine ap_lp_i ?_ | refine ap_bl_next (by decide) ?_)
            refine Wk_ret ?_
            repeat (with_reducible first | refine Pop.pop ?_ | refine ap_nil_i ?_ | refine ap_lp_i ?_ | refine ap_bl_next (by decide) ?_)
            simp (config := { maxSteps := 4000000 }) only [go_sem, Nat.reduceLT, Nat.reduceEqDiff, Nat.reduceAdd, Nat.reduceBEq, Nat.reduceMul, Nat.reduceSub, reduceIte, Nat.reduceLeDiff, reduceCtorEq, Int.reduceNeg, Int.reduceToNat, Int.reduceEq, Int.reduceNe, Int.reduceLT, Int.reduceLE, hr1, hc2, hc5, hr6, hc16d, FinW_ret, List.length_set, List.take_length]
            obtain rfl := Option.some.inj h
            exact ⟨_, rfl, (by exact ROk.refl _), (by repeat' (first | exact PureC.val _ | refine PureC.tup ?_ | refine PureC.agg ?_ | exact pure_nil | refine pure_cons ?_ ?_))⟩
          · have hc16d := decide_eq_true hc16
            first | rw [if_pos hc16] at h | rw [if_pos hc16d] at h | simp only [hc16d, Bool.not_true, Bool.not_false, Bool.false_eq_true, if_true, if_false] at h
            refine Wk_skip ?_
            repeat (with_reducible first | refine Pop.pop ?_ | refine ap_nil_i ?_ | refine ap_lp_i ?_ | refine ap_bl_next (by decide) ?_)
            refine Wk_seq ?_
            refine Wk_regionZ fun Z hZ => ?_
            simp (config := { maxSteps := 4000000 }) only [go_sem, Nat.reduceLT, Nat.reduceEqDiff, Nat.reduceAdd, Nat.reduceBEq, Nat.reduceMul, Nat.reduceSub, reduceIte, Nat.reduceLeDiff, reduceCtorEq, Int.reduceNeg, Int.reduceToNat, Int.reduceEq, Int.reduceNe, Int.reduceLT, Int.reduceLE, hr1, hc2, hc5, hr6, hc16d]
            refine hZ _ ?_
            repeat (with_reducible first | refine Pop.pop ?_ | refine ap_nil_i ?_ | refine ap_lp_i ?_ | refine ap_bl_next (by decide) ?_)
            refine Wk_seq ?_
            obtain ⟨r26, hr17, h⟩ := Option.bind_eq_some_iff.1 h
            refine Wk_regionZ fun Z hZ => ?_
            simp (config := { maxSteps := 4000000 }) only [go_sem, Nat.reduceLT, Nat.reduceEqDiff, Nat.reduceAdd, Nat.reduceBEq, Nat.reduceMul, Nat.reduceSub, reduceIte, Nat.reduceLeDiff, reduceCtorEq, Int.reduceNeg, Int.reduceToNat, Int.reduceEq, Int.reduceNe, Int.reduceLT, Int.reduceLE, hr1, hc2, hc5, hr6, hc16d, hr17]
            refine hZ _ ?_
            repeat (with_reducible first | refine Pop.pop ?_ | refine ap_nil_i ?_ | refine ap_lp_i ?_ | refine ap_bl_next (by decide) ?_)
            refine Wk_seq ?_
            refine Wk_seq ?_
            refine Wk_regionZ fun Z hZ => ?_
            simp (config := { maxSteps := 4000000 }) only [go_sem, Nat.reduceLT, Nat.reduceEqDiff, Nat.reduceAdd, Nat.reduceBEq, Nat.reduceMul, Nat.reduceSub, reduceIte, Nat.reduceLeDiff, reduceCtorEq, Int.reduceNeg, Int.reduceToNat, Int.reduceEq, Int.reduceNe, Int.reduceLT, Int.reduceLE, hr1, hc2, hc5, hr6, hc16d, hr17]
            refine hZ _ ?_
            repeat (with_reducible first | refine Pop.pop ?_ | refine ap_nil_i ?_ | refine ap_lp_i ?_ | refine ap_bl_next (by decide) ?_)
            refine Wk_cond_ndec rfl (fun hc18 => ?_) (fun hc18 => ?_)
            · have hc18d := decide_eq_false hc18
              first | rw [if_neg hc18] at h | rw [if_neg (ne_true_of_eq_false hc18d)] at h | simp only [hc18d, Bool.not_true, Bool.not_false, Bool.false_eq_true, if_true, if_false] at h
              refine Wk_seq ?_
              refine Wk_regionZ fun Z hZ => ?_
              simp (config := { maxSteps := 4000000 }) only [go_sem, Nat.reduceLT, Nat.reduceEqDiff, Nat.reduceAdd, Nat.reduceBEq, Nat.reduceMul, Nat.reduceSub, reduceIte, Nat.reduceLeDiff, reduceCtorEq, Int.reduceNeg, Int.reduceToNat, Int.reduceEq, Int.reduceNe, Int.reduceLT, Int.reduceLE, hr1, hc2, hc5, hr6, hc16d, hr17, hc18d]
              refine hZ _ ?_
              repeat (with_reducible first | refine Pop.pop ?_ | refine ap_nil_i ?_ | refine ap_lp_i ?_ | refine ap_bl_next (by decide) ?_)
              refine Wk_ret ?_
              repeat (with_reducible first | refine Pop.pop ?_ | refine ap_nil_i ?_ | refine ap_lp_i ?_ | refine ap_bl_next (by decide) ?_)
              simp (config := { maxSteps := 4000000 }) only [go_sem, Nat.reduceLT, Nat.reduceEqDiff, Nat.reduceAdd, Nat.reduceBEq, Nat.reduceMul, Nat.reduceSub, reduceIte, Nat.reduceLeDiff, reduceCtorEq, Int.reduceNeg, Int.reduceToNat, Int.reduceEq, Int.reduceNe, Int.reduceLT, Int.reduceLE, hr1, hc2, hc5, hr6, hc16d, hr17, hc18d, FinW_ret, List.length_set, List.take_length]
              obtain rfl := Option.some.inj h
              exact ⟨_, rfl, (by exact ROk.refl _), (by repeat' (first | exact PureC.val _ | refine PureC.tup ?_ | refine PureC.agg ?_ | exact pure_nil | refine pure_cons ?_ ?_))⟩
            · have hc18d := decide_eq_true hc18
              first | rw [if_pos hc18] at h | rw [if_pos hc18d] at h | simp only [hc18d, Bool.not_true, Bool.not_false, Bool.false_eq_true, if_true, if_false] at h
              refine Wk_skip ?_
              repeat (with_reducible first | refine Pop.pop ?_ | refine ap_nil_i ?_ | refine ap_lp_i ?_ | refine ap_bl_next (by decide) ?_)
              refine Wk_seq ?_
              refine Wk_regionZ fun Z hZ => ?_
              simp (config := { maxSteps := 4000000 }) only [go_sem, Nat.reduceLT, Nat.reduceEqDiff, Nat.reduceAdd, Nat.reduceBEq, Nat.reduceMul, Nat.reduceSub, reduceIte, Nat.reduceLeDiff, reduceCtorEq, Int.reduceNeg, Int.reduceToNat, Int.reduceEq, Int.reduceNe, Int.reduceLT, Int.reduceLE, hr1, hc2, hc5, hr6, hc16d, hr17, hc18d]
              refine hZ _ ?_
              repeat (with_reducible first | refine Pop.pop ?_ | refine ap_nil_i ?_ | refine ap_lp_i ?_ | refine ap_bl_next (by decide) ?_)
              refine Wk_seq ?_
              refine Wk_seq ?_
              refine Wk_regionZ fun Z hZ => ?_
              simp (config := { maxSteps := 4000000 }) only [go_sem, Nat.reduceLT, Nat.reduceEqDiff, Nat.reduceAdd, Nat.reduceBEq, Nat.reduceMul, Nat.reduceSub, reduceIte, Nat.reduceLeDiff, reduceCtorEq, Int.reduceNeg, Int.reduceToNat, Int.reduceEq, Int.reduceNe, Int.reduceLT, Int.reduceLE, hr1, hc2, hc5, hr6, hc16d, hr17, hc18d]
              refine hZ _ ?_
              repeat (with_reducible first | refine Pop.pop ?_ | refine ap_nil_i ?_ | refine ap_lp_i ?_ | refine ap_bl_next (by decide) ?_)
              refine Wk_block ?_
              refine Wk_real fun hreal20 => ?_
              have hl19 := hreal20.lenT 1 (by decide) (by simp only [go_sem, Nat.reduceLT, Nat.reduceEqDiff, Nat.reduceAdd, Nat.reduceBEq, Nat.reduceMul, Nat.reduceSub, reduceIte, Nat.reduceLeDiff, reduceCtorEq, Int.reduceNeg, Int.reduceToNat, Int.reduceEq, Int.reduceNe, Int.reduceLT, Int.reduceLE, Bool.or_self, List.length_set, Int.natCast_zero, Int.cast_ofNat_Int, hr1, hc2, hc5, hr6, hc16d, hr17, hc18d]; rfl)
              rw [List.length_map] at hl19
              refine Wk_range (fun (v37 : Nat) (b : ByteArray × Int × List Int × List Sub × List Int × List Int) => ⟨tab 244 (updT (updT (updT (updT (updT (updT deadT 1 (.sl false none 3 none (a1.map actorgridlaw30_Act.row))) 5 (.pref 5 [] 0 0)) 8 (.pref 8 [] 0 0)) 9 (.pal 160 [] 0 b.2.2.2.2.1.length none)) 10 (.pal 134 [] 0 b.2.2.2.2.2.length none)) 11 (.val (.int .i64 ((v37 : Nat) : Int)))), (upd (upd (upd (upd RZ 5 (.sl true none 4 (some 1) [[.val (.string b.1), .val (.int .i64 b.2.1), .sl false none 1 none (b.2.2.1.map (rowI .i64)), .sl false none 4 none (b.2.2.2.1.map Sub.row)]])) 8 (.sl true none 2 (some 1) [[.val (.string (⟨#[90]⟩)), .val (.string (⟨#[122]⟩))]])) 134 (.sl true none 1 none (b.2.2.2.2.2.map (rowI .i64)))) 160 (.sl true none 1 none (b.2.2.2.2.1.map (rowI .i64))))⟩) (r26.1.Name, r26.1.First, r26.1.Events, r26.1.Subs, [], []) h ?_ ?_
              · refine Weak.trans (weak_adopt 9 160 1 (by simp only [go_sem, Nat.reduceLT, Nat.reduceEqDiff, Nat.reduceAdd, Nat.reduceBEq, Nat.reduceMul, Nat.reduceSub, reduceIte, Nat.reduceLeDiff, reduceCtorEq, Int.reduceNeg, Int.reduceToNat, Int.reduceEq, Int.reduceNe, Int.reduceLT, Int.reduceLE, Bool.or_self, List.length_set, Int.natCast_zero, Int.cast_ofNat_Int, hr1, hc2, hc5, hr6, hc16d, hr17, hc18d]) (by simp only [go_sem, Nat.reduceLT, Nat.reduceEqDiff, Nat.reduceAdd, Nat.reduceBEq, Nat.reduceMul, Nat.reduceSub, reduceIte, Nat.reduceLeDiff, reduceCtorEq, Int.reduceNeg, Int.reduceToNat, Int.reduceEq, Int.reduceNe, Int.reduceLT, Int.reduceLE, Bool.or_self, List.length_set, Int.natCast_zero, Int.cast_ofNat_Int, hr1, hc2, hc5, hr6, hc16d, hr17, hc18d])) ?_
                refine Weak.trans (weak_adopt 10 134 1 (by simp only [go_sem, Nat.reduceLT, Nat.reduceEqDiff, Nat.reduceAdd, Nat.reduceBEq, Nat.reduceMul, Nat.reduceSub, reduceIte, Nat.reduceLeDiff, reduceCtorEq, Int.reduceNeg, Int.reduceToNat, Int.reduceEq, Int.reduceNe, Int.reduceLT, Int.reduceLE, Bool.or_self, List.length_set, Int.natCast_zero, Int.cast_ofNat_Int, hr1, hc2, hc5, hr6, hc16d, hr17, hc18d]) (by simp only [go_sem, Nat.reduceLT, Nat.reduceEqDiff, Nat.reduceAdd, Nat.reduceBEq, Nat.reduceMul, Nat.reduceSub, reduceIte, Nat.reduceLeDiff, reduceCtorEq, Int.reduceNeg, Int.reduceToNat, Int.reduceEq, Int.reduceNe, Int.reduceLT, Int.reduceLE, Bool.or_self, List.length_set, Int.natCast_zero, Int.cast_ofNat_Int, hr1, hc2, hc5, hr6, hc16d, hr17, hc18d])) ?_
                refine weak_roots ?_ ?_
                · (repeat' (first | exact weakX_nil | refine weakX_cons ?_ ?_)) <;> (first | rfl | simp only [go_sem, Nat.reduceLT, Nat.reduceEqDiff, Nat.reduceAdd, Nat.reduceBEq, Nat.reduceMul, Nat.reduceSub, reduceIte, Nat.reduceLeDiff, reduceCtorEq, Int.reduceNeg, Int.reduceToNat, Int.reduceEq, Int.reduceNe, Int.reduceLT, Int.reduceLE, Bool.or_self, List.length_set, Int.natCast_zero, Int.cast_ofNat_Int, hr1, hc2, hc5, hr6, hc16d, hr17, hc18d])
                · (repeat' (first | exact weakR_nil | refine weakR_cons ?_ ?_ ?_)) <;> (first | rfl | simp only [go_sem, Nat.reduceLT, Nat.reduceEqDiff, Nat.reduceAdd, Nat.reduceBEq, Nat.reduceMul, Nat.reduceSub, reduceIte, Nat.reduceLeDiff, reduceCtorEq, Int.reduceNeg, Int.reduceToNat, Int.reduceEq, Int.reduceNe, Int.reduceLT, Int.reduceLE, Bool.or_self, List.length_set, Int.natCast_zero, Int.cast_ofNat_Int, hr1, hc2, hc5, hr6, hc16d, hr17, hc18d])
              · rintro v37 ⟨s31, v32, l33, l34, l35, l36⟩ hi21 h -
                rcases drop_cases a1 v37 hi21 with ⟨x40, hi21', hx22, hd24⟩ | ⟨hi21', _, hd24⟩
                · rw [hd24] at h
                  simp only [law30_StreamsOnce_L2] at h
                  have hw23 := wrap_succ hi21' hl19
                  refine Wk_seq ?_
                  refine Wk_seq ?_
                  refine Wk_regionZ fun Z hZ => ?_
                  simp (config := { maxSteps := 4000000 }) only [go_sem, Nat.reduceLT, Nat.reduceEqDiff, Nat.reduceAdd, Nat.reduceBEq, Nat.reduceMul, Nat.reduceSub, reduceIte, Nat.reduceLeDiff, reduceCtorEq, Int.reduceNeg, Int.reduceToNat, Int.reduceEq, Int.reduceNe, Int.reduceLT, Int.reduceLE, hr1, hc2, hc5, hr6, hc16d, hr17, hc18d, hx22, hi21', hw23]
                  refine hZ _ ?_
                  repeat (with_reducible first | refine Pop.pop ?_ | refine ap_nil_i ?_ | refine ap_lp_i ?_ | refine ap_bl_next (by decide) ?_)
                  try simp only [Int.ofNat_lt, hi21', if_true, if_false] at h
                  refine Wk_cond_t rfl ?_
                  refine Wk_skip ?_
                  repeat (with_reducible first | refine Pop.pop ?_ | refine ap_nil_i ?_ | refine ap_lp_i ?_ | refine ap_bl_next (by decide) ?_)
                  refine Wk_seq ?_
                  refine Wk_block ?_
                  refine Wk_seq ?_
                  try rw [gx_nat hx22] at h
                  obtain ⟨r59, hr25, h⟩ := Option.bind_eq_some_iff.1 h
                  refine Wk_regionZ fun Z hZ => ?_
                  simp (config := { maxSteps := 4000000 }) only [go_sem, Nat.reduceLT, Nat.reduceEqDiff, Nat.reduceAdd, Nat.reduceBEq, Nat.reduceMul, Nat.reduceSub, reduceIte, Nat.reduceLeDiff, reduceCtorEq, Int.reduceNeg, Int.reduceToNat, Int.reduceEq, Int.reduceNe, Int.reduceLT, Int.reduceLE, hr1, hc2, hc5, hr6, hc16d, hr17, hc18d, hx22, hi21', hw23, hr25]
                  refine hZ _ ?_
                  repeat (with_reducible first | refine Pop.pop ?_ | refine ap_nil_i ?_ | refine ap_lp_i ?_ | refine ap_bl_next (by decide) ?_)
                  refine Wk_seq ?_
                  try rw [gx_nat hx22] at h
                  refine Wk_regionZ fun Z hZ => ?_
                  simp (config := { maxSteps := 4000000 }) only [go_sem, Nat.reduceLT, Nat.reduceEqDiff, Nat.reduceAdd, Nat.reduceBEq, Nat.reduceMul, Nat.reduceSub, reduceIte, Nat.reduceLeDiff, reduceCtorEq, Int.reduceNeg, Int.reduceToNat, Int.reduceEq, Int.reduceNe, Int.reduceLT, Int.reduceLE, hr1, hc2, hc5, hr6, hc16d, hr17, hc18d, hx22, hi21', hw23, hr25]
                  refine hZ _ ?_
                  repeat (with_reducible first | refine Pop.pop ?_ | refine ap_nil_i ?_ | refine ap_lp_i ?_ | refine ap_bl_next (by decide) ?_)
                  refine Wk_block ?_
                  apply Wk_join1 (fun (c60 : Bool) => ⟨tab 244 (updT (updT (updT (updT (updT (updT (updT (updT (updT (updT deadT 1 (.sl false none 3 none (a1.map actorgridlaw30_Act.row))) 5 (.pref 5 [] 0 0)) 8 (.pref 8 [] 0 0)) 9 (.pal 160 [] 0 l35.length none)) 10 (.pal 134 [] 0 l36.length none)) 11 (.val (.int .i64 ((v37 : Nat) : Int)))) 12 (.pref 12 [] 0 0)) 13 (.val (.string r59.2))) 94 (.val (.int .u8 (Int.tmod x40.Kind 8)))) 135 (.val (.bool c60))), (upd (upd (upd (upd (upd RZ 5 (.sl true none 4 (some 1) [[.val (.string s31), .val (.int .i64 v32), .sl false none 1 none (l33.map (rowI .i64)), .sl false none 4 none (l34.map Sub.row)]])) 8 (.sl true none 2 (some 1) [[.val (.string (⟨#[90]⟩)), .val (.string (⟨#[122]⟩))]])) 12 (.sl true none 2 (some 1) [[.val (.string r59.1.Type_), .val (.string r59.1.Key)]])) 134 (.sl true none 1 none (l36.map (rowI .i64)))) 160 (.sl true none 1 none (l35.map (rowI .i64))))⟩)
                  · intro hJ26
                    refine Wk_seq ?_
                    refine Wk_regionZ fun Z hZ => ?_
                    simp (config := { maxSteps := 4000000 }) only [go_sem, Nat.reduceLT, Nat.reduceEqDiff, Nat.reduceAdd, Nat.reduceBEq, Nat.reduceMul, Nat.reduceSub, reduceIte, Nat.reduceLeDiff, reduceCtorEq, Int.reduceNeg, Int.reduceToNat, Int.reduceEq, Int.reduceNe, Int.reduceLT, Int.reduceLE, hr1, hc2, hc5, hr6, hc16d, hr17, hc18d, hx22, hi21', hw23, hr25]
                    refine hZ _ ?_
                    repeat (with_reducible first | refine Pop.pop ?_ | refine ap_nil_i ?_ | refine ap_lp_i ?_ | refine ap_bl_next (by decide) ?_)
                    refine Wk_cond_dec rfl (fun hc27 => ?_) (fun hc27 => ?_)
                    · have hc27d := decide_eq_true hc27
                      first | rw [if_pos hc27] at h | rw [if_pos hc27d] at h | simp only [hc27d, Bool.not_true, Bool.not_false, Bool.false_eq_true, if_true, if_false] at h
                      refine Wk_skip ?_
                      repeat (with_reducible first | refine Pop.pop ?_ | refine ap_nil_i ?_ | refine ap_lp_i ?_ | refine ap_bl_next (by decide) ?_)
                      refine hJ26 _ true ?_ h
                      refine weak_roots ?_ ?_
                      · (repeat' (first | exact weakX_nil | refine weakX_cons ?_ ?_)) <;> (first | rfl | simp only [go_sem, Nat.reduceLT, Nat.reduceEqDiff, Nat.reduceAdd, Nat.reduceBEq, Nat.reduceMul, Nat.reduceSub, reduceIte, Nat.reduceLeDiff, reduceCtorEq, Int.reduceNeg, Int.reduceToNat, Int.reduceEq, Int.reduceNe, Int.reduceLT, Int.reduceLE, Bool.or_self, List.length_set, Int.natCast_zero, Int.cast_ofNat_Int, hr1, hc2, hc5, hr6, hc16d, hr17, hc18d, hx22, hi21', hw23, hr25, hc27d])
                      · (repeat' (first | exact weakR_nil | refine weakR_cons ?_ ?_ ?_)) <;> (first | rfl | simp only [go_sem, Nat.reduceLT, Nat.reduceEqDiff, Nat.reduceAdd, Nat.reduceBEq, Nat.reduceMul, Nat.reduceSub, reduceIte, Nat.reduceLeDiff, reduceCtorEq, Int.reduceNeg, Int.reduceToNat, Int.reduceEq, Int.reduceNe, Int.reduceLT, Int.reduceLE, Bool.or_self, List.length_set, Int.natCast_zero, Int.cast_ofNat_Int, hr1, hc2, hc5, hr6, hc16d, hr17, hc18d, hx22, hi21', hw23, hr25, hc27d])
                    · have hc27d := decide_eq_false hc27
                      first | rw [if_neg hc27] at h | rw [if_neg (ne_true_of_eq_false hc27d)] at h | simp only [hc27d, Bool.not_true, Bool.not_false, Bool.false_eq_true, if_true, if_false] at h
                      refine Wk_seq ?_
                      refine Wk_regionZ fun Z hZ => ?_
                      simp (config := { maxSteps := 4000000 }) only [go_sem, Nat.reduceLT, Nat.reduceEqDiff, Nat.reduceAdd, Nat.reduceBEq, Nat.reduceMul, Nat.reduceSub, reduceIte, Nat.reduceLeDiff, reduceCtorEq, Int.reduceNeg, Int.reduceToNat, Int.reduceEq, Int.reduceNe, Int.reduceLT, Int.reduceLE, hr1, hc2, hc5, hr6, hc16d, hr17, hc18d, hx22, hi21', hw23, hr25, hc27d]
                      refine hZ _ ?_
                      repeat (with_reducible first | refine Pop.pop ?_ | refine ap_nil_i ?_ | refine ap_lp_i ?_ | refine ap_bl_next (by decide) ?_)
                      refine Wk_cond_dec rfl (fun hc28 => ?_) (fun hc28 => ?_)
                      · have hc28d := decide_eq_true hc28
                        first | rw [if_pos hc28] at h | rw [if_pos hc28d] at h | simp only [hc28d, Bool.not_true, Bool.not_false, Bool.false_eq_true, if_true, if_false] at h
                        refine Wk_skip ?_
                        repeat (with_reducible first | refine Pop.pop ?_ | refine ap_nil_i ?_ | refine ap_lp_i ?_ | refine ap_bl_next (by decide) ?_)
                        refine hJ26 _ true ?_ h
                        refine weak_roots ?_ ?_
                        · (repeat' (first | exact weakX_nil | refine weakX_cons ?_ ?_)) <;> (first | rfl | simp only [go_sem, Nat.reduceLT, Nat.reduceEqDiff, Nat.reduceAdd, Nat.reduceBEq, Nat.reduceMul, Nat.reduceSub, reduceIte, Nat.reduceLeDiff, reduceCtorEq, Int.reduceNeg, Int.reduceToNat, Int.reduceEq, Int.reduceNe, Int.reduceLT, Int.reduceLE, Bool.or_self, List.length_set, Int.natCast_zero, Int.cast_ofNat_Int, hr1, hc2, hc5, hr6, hc16d, hr17, hc18d, hx22, hi21', hw23, hr25, hc27d, hc28d])
                        · (repeat' (first | exact weakR_nil | refine weakR_cons ?_ ?_ ?_)) <;> (first | rfl | simp only [go_sem, Nat.reduceLT, Nat.reduceEqDiff, Nat.reduceAdd, Nat.reduceBEq, Nat.reduceMul, Nat.reduceSub, reduceIte, Nat.reduceLeDiff, reduceCtorEq, Int.reduceNeg, Int.reduceToNat, Int.reduceEq, Int.reduceNe, Int.reduceLT, Int.reduceLE, Bool.or_self, List.length_set, Int.natCast_zero, Int.cast_ofNat_Int, hr1, hc2, hc5, hr6, hc16d, hr17, hc18d, hx22, hi21', hw23, hr25, hc27d, hc28d])
                      · have hc28d := decide_eq_false hc28
                        first | rw [if_neg hc28] at h | rw [if_neg (ne_true_of_eq_false hc28d)] at h | simp only [hc28d, Bool.not_true, Bool.not_false, Bool.false_eq_true, if_true, if_false] at h
                        refine Wk_regionZ fun Z hZ => ?_
                        simp (config := { maxSteps := 4000000 }) only [go_sem, Nat.reduceLT, Nat.reduceEqDiff, Nat.reduceAdd, Nat.reduceBEq, Nat.reduceMul, Nat.reduceSub, reduceIte, Nat.reduceLeDiff, reduceCtorEq, Int.reduceNeg, Int.reduceToNat, Int.reduceEq, Int.reduceNe, Int.reduceLT, Int.reduceLE, hr1, hc2, hc5, hr6, hc16d, hr17, hc18d, hx22, hi21', hw23, hr25, hc27d, hc28d]
                        refine hZ _ ?_
                        repeat (with_reducible first | refine Pop.pop ?_ | refine ap_nil_i ?_ | refine ap_lp_i ?_ | refine ap_bl_next (by decide) ?_)
                        refine hJ26 _ (decide ((Int.tmod x40.Kind 8) = 2)) ?_ h
                        refine weak_roots ?_ ?_
                        · (repeat' (first | exact weakX_nil | refine weakX_cons ?_ ?_)) <;> (first | rfl | simp only [go_sem, Nat.reduceLT, Nat.reduceEqDiff, Nat.reduceAdd, Nat.reduceBEq, Nat.reduceMul, Nat.reduceSub, reduceIte, Nat.reduceLeDiff, reduceCtorEq, Int.reduceNeg, Int.reduceToNat, Int.reduceEq, Int.reduceNe, Int.reduceLT, Int.reduceLE, Bool.or_self, List.length_set, Int.natCast_zero, Int.cast_ofNat_Int, hr1, hc2, hc5, hr6, hc16d, hr17, hc18d, hx22, hi21', hw23, hr25, hc27d, hc28d])
                        · (repeat' (first | exact weakR_nil | refine weakR_cons ?_ ?_ ?_)) <;> (first | rfl | simp only [go_sem, Nat.reduceLT, Nat.reduceEqDiff, Nat.reduceAdd, Nat.reduceBEq, Nat.reduceMul, Nat.reduceSub, reduceIte, Nat.reduceLeDiff, reduceCtorEq, Int.reduceNeg, Int.reduceToNat, Int.reduceEq, Int.reduceNe, Int.reduceLT, Int.reduceLE, Bool.or_self, List.length_set, Int.natCast_zero, Int.cast_ofNat_Int, hr1, hc2, hc5, hr6, hc16d, hr17, hc18d, hx22, hi21', hw23, hr25, hc27d, hc28d])
                  · intro c60 h
                    unfold law30_StreamsOnce_J2 at h
                    refine Wk_cond_bool rfl (fun hc29 => ?_) (fun hc29 => ?_)
                    · first | rw [if_pos hc29] at h | simp only [hc29, hc2, hc5, Bool.or_false, Bool.or_true, Bool.false_or, Bool.true_or, Bool.and_true, Bool.true_and, Bool.and_false, Bool.false_and, Bool.not_true, Bool.not_false, Bool.false_eq_true, if_true, if_false] at h
                      refine Wk_seq ?_
                      try rw [gx_nat hx22] at h
                      obtain ⟨r61, hr30, h⟩ := Option.bind_eq_some_iff.1 h
                      refine Wk_regionD fun Z hZ => ?_
                      simp (config := { maxSteps := 4000000 }) only [go_sem, Nat.reduceLT, Nat.reduceEqDiff, Nat.reduceAdd, Nat.reduceBEq, Nat.reduceMul, Nat.reduceSub, reduceIte, Nat.reduceLeDiff, reduceCtorEq, Int.reduceNeg, Int.reduceToNat, Int.reduceEq, Int.reduceNe, Int.reduceLT, Int.reduceLE, hr1, hc2, hc5, hr6, hc16d, hr17, hc18d, hx22, hi21', hw23, hr25, hc29, hr30]
                      repeat' ((with_reducible refine and_bar ?_ ?_); kernel_rfl)
                      refine hZ _ (by kernel_rfl) ?_
                      repeat (with_reducible first | refine Pop.pop ?_ | refine ap_nil_i ?_ | refine ap_lp_i ?_ | refine ap_bl_next (by decide) ?_)
                      refine Wk_seq ?_
                      refine Wk_regionZ fun Z hZ => ?_
                      simp (config := { maxSteps := 4000000 }) only [go_sem, Nat.reduceLT, Nat.reduceEqDiff, Nat.reduceAdd, Nat.reduceBEq, Nat.reduceMul, Nat.reduceSub, reduceIte, Nat.reduceLeDiff, reduceCtorEq, Int.reduceNeg, Int.reduceToNat, Int.reduceEq, Int.reduceNe, Int.reduceLT, Int.reduceLE, hr1, hc2, hc5, hr6, hc16d, hr17, hc18d, hx22, hi21', hw23, hr25, hc29, hr30]
                      refine hZ _ ?_
                      repeat (with_reducible first | refine Pop.pop ?_ | refine ap_nil_i ?_ | refine ap_lp_i ?_ | refine ap_bl_next (by decide) ?_)
                      refine Wk_cond_dec rfl (fun hc31 => ?_) (fun hc31 => ?_)
                      · have hc31d := decide_eq_true hc31
                        first | rw [if_pos hc31] at h | rw [if_pos hc31d] at h | simp only [hc31d, Bool.not_true, Bool.not_false, Bool.false_eq_true, if_true, if_false] at h
                        refine Wk_seq ?_
                        refine Wk_regionZ fun Z hZ => ?_
                        simp (config := { maxSteps := 4000000 }) only [go_sem, Nat.reduceLT, Nat.reduceEqDiff, Nat.reduceAdd, Nat.reduceBEq, Nat.reduceMul, Nat.reduceSub, reduceIte, Nat.reduceLeDiff, reduceCtorEq, Int.reduceNeg, Int.reduceToNat, Int.reduceEq, Int.reduceNe, Int.reduceLT, Int.reduceLE, hr1, hc2, hc5, hr6, hc16d, hr17, hc18d, hx22, hi21', hw23, hr25, hc29, hr30, hc31d]
                        refine hZ _ ?_
                        repeat (with_reducible first | refine Pop.pop ?_ | refine ap_nil_i ?_ | refine ap_lp_i ?_ | refine ap_bl_next (by decide) ?_)
                        try rw [gx_nat hx22] at h
                        obtain ⟨ha32, h⟩ := apx_some h
                        simp only [List.length_cons, List.length_nil, Nat.zero_add, Nat.add_zero, Nat.reduceAdd] at ha32
                        refine Wk_regionZ fun Z hZ => ?_
                        simp (config := { maxSteps := 4000000 }) only [go_sem, Nat.reduceLT, Nat.reduceEqDiff, Nat.reduceAdd, Nat.reduceBEq, Nat.reduceMul, Nat.reduceSub, reduceIte, Nat.reduceLeDiff, reduceCtorEq, Int.reduceNeg, Int.reduceToNat, Int.reduceEq, Int.reduceNe, Int.reduceLT, Int.reduceLE, hr1, hc2, hc5, hr6, hc16d, hr17, hc18d, hx22, hi21', hw23, hr25, hc29, hr30, hc31d, ha32]
                        refine hZ _ ?_
                        repeat (with_reducible first | refine Pop.pop ?_ | refine ap_nil_i ?_ | refine ap_lp_i ?_ | refine ap_bl_next (by decide) ?_)
                        refine Wk_regionZ fun Z hZ => ?_
                        simp (config := { maxSteps := 4000000 }) only [go_sem, Nat.reduceLT, Nat.reduceEqDiff, Nat.reduceAdd, Nat.reduceBEq, Nat.reduceMul, Nat.reduceSub, reduceIte, Nat.reduceLeDiff, reduceCtorEq, Int.reduceNeg, Int.reduceToNat, Int.reduceEq, Int.reduceNe, Int.reduceLT, Int.reduceLE, hr1, hc2, hc5, hr6, hc16d, hr17, hc18d, hx22, hi21', hw23, hr25, hc29, hr30, hc31d, ha32]
                        refine hZ _ ?_
                        repeat (with_reducible first | refine Pop.pop ?_ | refine ap_nil_i ?_ | refine ap_lp_i ?_ | refine ap_bl_next (by decide) ?_)
                        first | refine ⟨(r61.1.Name, r61.1.First, r61.1.Events, r61.1.Subs, (l35 ++ [x40.Value]), l36), ?_, h⟩ | refine ⟨hi21', (r61.1.Name, r61.1.First, r61.1.Events, r61.1.Subs, (l35 ++ [x40.Value]), l36), ?_, h⟩
                        refine weak_roots ?_ ?_
                        · (repeat' (first | exact weakX_nil | refine weakX_cons ?_ ?_)) <;> (first | rfl | simp only [go_sem, Nat.reduceLT, Nat.reduceEqDiff, Nat.reduceAdd, Nat.reduceBEq, Nat.reduceMul, Nat.reduceSub, reduceIte, Nat.reduceLeDiff, reduceCtorEq, Int.reduceNeg, Int.reduceToNat, Int.reduceEq, Int.reduceNe, Int.reduceLT, Int.reduceLE, Bool.or_self, List.length_set, Int.natCast_zero, Int.cast_ofNat_Int, hr1, hc2, hc5, hr6, hc16d, hr17, hc18d, hx22, hi21', hw23, hr25, hc29, hr30, hc31d, ha32])
                        · (repeat' (first | exact weakR_nil | refine weakR_cons ?_ ?_ ?_)) <;> (first | rfl | simp only [go_sem, Nat.reduceLT, Nat.reduceEqDiff, Nat.reduceAdd, Nat.reduceBEq, Nat.reduceMul, Nat.reduceSub, reduceIte, Nat.reduceLeDiff, reduceCtorEq, Int.reduceNeg, Int.reduceToNat, Int.reduceEq, Int.reduceNe, Int.reduceLT, Int.reduceLE, Bool.or_self, List.length_set, Int.natCast_zero, Int.cast_ofNat_Int, hr1, hc2, hc5, hr6, hc16d, hr17, hc18d, hx22, hi21', hw23, hr25, hc29, hr30, hc31d, ha32])
                      · have hc31d := decide_eq_false hc31
                        first | rw [if_neg hc31] at h | rw [if_neg (ne_true_of_eq_false hc31d)] at h | simp only [hc31d, Bool.not_true, Bool.not_false, Bool.false_eq_true, if_true, if_false] at h
                        refine Wk_skip ?_
                        repeat (with_reducible first | refine Pop.pop ?_ | refine ap_nil_i ?_ | refine ap_lp_i ?_ | refine ap_bl_next (by decide) ?_)
                        refine Wk_regionZ fun Z hZ => ?_
                        simp (config := { maxSteps := 4000000 }) only [go_sem, Nat.reduceLT, Nat.reduceEqDiff, Nat.reduceAdd, Nat.reduceBEq, Nat.reduceMul, Nat.reduceSub, reduceIte, Nat.reduceLeDiff, reduceCtorEq, Int.reduceNeg, Int.reduceToNat, Int.reduceEq, Int.reduceNe, Int.reduceLT, Int.reduceLE, hr1, hc2, hc5, hr6, hc16d, hr17, hc18d, hx22, hi21', hw23, hr25, hc29, hr30, hc31d]
                        refine hZ _ ?_
                        repeat (with_reducible first | refine Pop.pop ?_ | refine ap_nil_i ?_ | refine ap_lp_i ?_ | refine ap_bl_next (by decide) ?_)
                        first | refine ⟨(s31, v32, l33, l34, l35, l36), ?_, h⟩ | refine ⟨hi21', (s31, v32, l33, l34, l35, l36), ?_, h⟩
                        refine weak_roots ?_ ?_
                        · (repeat' (first | exact weakX_nil | refine weakX_cons ?_ ?_)) <;> (first | rfl | simp only [go_sem, Nat.reduceLT, Nat.reduceEqDiff, Nat.reduceAdd, Nat.reduceBEq, Nat.reduceMul, Nat.reduceSub, reduceIte, Nat.reduceLeDiff, reduceCtorEq, Int.reduceNeg, Int.reduceToNat, Int.reduceEq, Int.reduceNe, Int.reduceLT, Int.reduceLE, Bool.or_self, List.length_set, Int.natCast_zero, Int.cast_ofNat_Int, hr1, hc2, hc5, hr6, hc16d, hr17, hc18d, hx22, hi21', hw23, hr25, hc29, hr30, hc31d])
                        · (repeat' (first | exact weakR_nil | refine weakR_cons ?_ ?_ ?_)) <;> (first | rfl | simp only [go_sem, Nat.reduceLT, Nat.reduceEqDiff, Nat.reduceAdd, Nat.reduceBEq, Nat.reduceMul, Nat.reduceSub, reduceIte, Nat.reduceLeDiff, reduceCtorEq, Int.reduceNeg, Int.reduceToNat, Int.reduceEq, Int.reduceNe, Int.reduceLT, Int.reduceLE, Bool.or_self, List.length_set, Int.natCast_zero, Int.cast_ofNat_Int, hr1, hc2, hc5, hr6, hc16d, hr17, hc18d, hx22, hi21', hw23, hr25, hc29, hr30, hc31d])
                    · first | rw [if_neg (ne_true_of_eq_false hc29)] at h | simp only [hc29, hc2, hc5, Bool.or_false, Bool.or_true, Bool.false_or, Bool.true_or, Bool.and_true, Bool.true_and, Bool.and_false, Bool.false_and, Bool.not_true, Bool.not_false, Bool.false_eq_true, if_true, if_false] at h
                      refine Wk_seq ?_
                      refine Wk_regionZ fun Z hZ => ?_
                      simp (config := { maxSteps := 4000000 }) only [go_sem, Nat.reduceLT, Nat.reduceEqDiff, Nat.reduceAdd, Nat.reduceBEq, Nat.reduceMul, Nat.reduceSub, reduceIte, Nat.reduceLeDiff, reduceCtorEq, Int.reduceNeg, Int.reduceToNat, Int.reduceEq, Int.reduceNe, Int.reduceLT, Int.reduceLE, hr1, hc2, hc5, hr6, hc16d, hr17, hc18d, hx22, hi21', hw23, hr25, hc29]
                      refine hZ _ ?_
                      repeat (with_reducible first | refine Pop.pop ?_ | refine ap_nil_i ?_ | refine ap_lp_i ?_ | refine ap_bl_next (by decide) ?_)
                      refine Wk_cond_dec rfl (fun hc33 => ?_) (fun hc33 => ?_)
                      · have hc33d := decide_eq_true hc33
                        first | rw [if_pos hc33] at h | rw [if_pos hc33d] at h | simp only [hc33d, Bool.not_true, Bool.not_false, Bool.false_eq_true, if_true, if_false] at h
                        refine Wk_seq ?_
                        obtain ⟨r62, hr34, h⟩ := Option.bind_eq_some_iff.1 h
                        refine Wk_regionZ fun Z hZ => ?_
                        simp (config := { maxSteps := 4000000 }) only [go_sem, Nat.reduceLT, Nat.reduceEqDiff, Nat.reduceAdd, Nat.reduceBEq, Nat.reduceMul, Nat.reduceSub, reduceIte, Nat.reduceLeDiff, reduceCtorEq, Int.reduceNeg, Int.reduceToNat, Int.reduceEq, Int.reduceNe, Int.reduceLT, Int.reduceLE, hr1, hc2, hc5, hr6, hc16d, hr17, hc18d, hx22, hi21', hw23, hr25, hc29, hc33d, hr34]
                        refine hZ _ ?_
                        repeat (with_reducible first | refine Pop.pop ?_ | refine ap_nil_i ?_ | refine ap_lp_i ?_ | refine ap_bl_next (by decide) ?_)
                        refine Wk_seq ?_
                        refine Wk_regionZ fun Z hZ => ?_
                        simp (config := { maxSteps := 4000000 }) only [go_sem, Nat.reduceLT, Nat.reduceEqDiff, Nat.reduceAdd, Nat.reduceBEq, Nat.reduceMul, Nat.reduceSub, reduceIte, Nat.reduceLeDiff, reduceCtorEq, Int.reduceNeg, Int.reduceToNat, Int.reduceEq, Int.reduceNe, Int.reduceLT, Int.reduceLE, hr1, hc2, hc5, hr6, hc16d, hr17, hc18d, hx22, hi21', hw23, hr25, hc29, hc33d, hr34]
                        refine hZ _ ?_
                        repeat (with_reducible first | refine Pop.pop ?_ | refine ap_nil_i ?_ | refine ap_lp_i ?_ | refine ap_bl_next (by decide) ?_)
                        refine Wk_cond_dec rfl (fun hc35 => ?_) (fun hc35 => ?_)
                        · have hc35d := decide_eq_true hc35
                          first | rw [if_pos hc35] at h | rw [if_pos hc35d] at h | simp only [hc35d, Bool.not_true, Bool.not_false, Bool.false_eq_true, if_true, if_false] at h
                          refine Wk_regionZ fun Z hZ => ?_
                          simp (config := { maxSteps := 4000000 }) only [go_sem, Nat.reduceLT, Nat.reduceEqDiff, Nat.reduceAdd, Nat.reduceBEq, Nat.reduceMul, Nat.reduceSub, reduceIte, Nat.reduceLeDiff, reduceCtorEq, Int.reduceNeg, Int.reduceToNat, Int.reduceEq, Int.reduceNe, Int.reduceLT, Int.reduceLE, hr1, hc2, hc5, hr6, hc16d, hr17, hc18d, hx22, hi21', hw23, hr25, hc29, hc33d, hr34, hc35d]
                          refine hZ _ ?_
                          repeat (with_reducible first | refine Pop.pop ?_ | refine ap_nil_i ?_ | refine ap_lp_i ?_ | refine ap_bl_next (by decide) ?_)
                          refine Wk_regionZ fun Z hZ => ?_
                          simp (config := { maxSteps := 4000000 }) only [go_sem, Nat.reduceLT, Nat.reduceEqDiff, Nat.reduceAdd, Nat.reduceBEq, Nat.reduceMul, Nat.reduceSub, reduceIte, Nat.reduceLeDiff, reduceCtorEq, Int.reduceNeg, Int.reduceToNat, Int.reduceEq, Int.reduceNe, Int.reduceLT, Int.reduceLE, hr1, hc2, hc5, hr6, hc16d, hr17, hc18d, hx22, hi21', hw23, hr25, hc29, hc33d, hr34, hc35d]
                          refine hZ _ ?_
                          repeat (with_reducible first | refine Pop.pop ?_ | refine ap_nil_i ?_ | refine ap_lp_i ?_ | refine ap_bl_next (by decide) ?_)
                          first | refine ⟨(r62.1.Name, r62.1.First, r62.1.Events, r62.1.Subs, l35, l36), ?_, h⟩ | refine ⟨hi21', (r62.1.Name, r62.1.First, r62.1.Events, r62.1.Subs, l35, l36), ?_, h⟩
                          refine weak_roots ?_ ?_
                          · (repeat' (first | exact weakX_nil | refine weakX_cons ?_ ?_)) <;> (first | rfl | simp only [go_sem, Nat.reduceLT, Nat.reduceEqDiff, Nat.reduceAdd, Nat.reduceBEq, Nat.reduceMul, Nat.reduceSub, reduceIte, Nat.reduceLeDiff, reduceCtorEq, Int.reduceNeg, Int.reduceToNat, Int.reduceEq, Int.reduceNe, Int.reduceLT, Int.reduceLE, Bool.or_self, List.length_set, Int.natCast_zero, Int.cast_ofNat_Int, hr1, hc2, hc5, hr6, hc16d, hr17, hc18d, hx22, hi21', hw23, hr25, hc29, hc33d, hr34, hc35d])
                          · (repeat' (first | exact weakR_nil | refine weakR_cons ?_ ?_ ?_)) <;> (first | rfl | simp only [go_sem, Nat.reduceLT, Nat.reduceEqDiff, Nat.reduceAdd, Nat.reduceBEq, Nat.reduceMul, Nat.reduceSub, reduceIte, Nat.reduceLeDiff, reduceCtorEq, Int.reduceNeg, Int.reduceToNat, Int.reduceEq, Int.reduceNe, Int.reduceLT, Int.reduceLE, Bool.or_self, List.length_set, Int.natCast_zero, Int.cast_ofNat_Int, hr1, hc2, hc5, hr6, hc16d, hr17, hc18d, hx22, hi21', hw23, hr25, hc29, hc33d, hr34, hc35d])
                        · have hc35d := decide_eq_false hc35
                          first | rw [if_neg hc35] at h | rw [if_neg (ne_true_of_eq_false hc35d)] at h | simp only [hc35d, Bool.not_true, Bool.not_false, Bool.false_eq_true, if_true, if_false] at h
                          refine Wk_skip ?_
                          repeat (with_reducible first | refine Pop.pop ?_ | refine ap_nil_i ?_ | refine ap_lp_i ?_ | refine ap_bl_next (by decide) ?_)
                          refine Wk_regionZ fun Z hZ => ?_
                          simp (config := { maxSteps := 4000000 }) only [go_sem, Nat.reduceLT, Nat.reduceEqDiff, Nat.reduceAdd, Nat.reduceBEq, Nat.reduceMul, Nat.reduceSub, reduceIte, Nat.reduceLeDiff, reduceCtorEq, Int.reduceNeg, Int.reduceToNat, Int.reduceEq, Int.reduceNe, Int.reduceLT, Int.reduceLE, hr1, hc2, hc5, hr6, hc16d, hr17, hc18d, hx22, hi21', hw23, hr25, hc29, hc33d, hr34, hc35d]
                          refine hZ _ ?_
                          repeat (with_reducible first | refine Pop.pop ?_ | refine ap_nil_i ?_ | refine ap_lp_i ?_ | refine ap_bl_next (by decide) ?_)
                          first | refine ⟨(s31, v32, l33, l34, l35, l36), ?_, h⟩ | refine ⟨hi21', (s31, v32, l33, l34, l35, l36), ?_, h⟩
                          refine weak_roots ?_ ?_
                          · (repeat' (first | exact weakX_nil | refine weakX_cons ?_ ?_)) <;> (first | rfl | simp only [go_sem, Nat.reduceLT, Nat.reduceEqDiff, Nat.reduceAdd, Nat.reduceBEq, Nat.reduceMul, Nat.reduceSub, reduceIte, Nat.reduceLeDiff, reduceCtorEq, Int.reduceNeg, Int.reduceToNat, Int.reduceEq, Int.reduceNe, Int.reduceLT, Int.reduceLE, Bool.or_self, List.length_set, Int.natCast_zero, Int.cast_ofNat_Int, hr1, hc2, hc5, hr6, hc16d, hr17, hc18d, hx22, hi21', hw23, hr25, hc29, hc33d, hr34, hc35d])
                          · (repeat' (first | exact weakR_nil | refine weakR_cons ?_ ?_ ?_)) <;> (first | rfl | simp only [go_sem, Nat.reduceLT, Nat.reduceEqDiff, Nat.reduceAdd, Nat.reduceBEq, Nat.reduceMul, Nat.reduceSub, reduceIte, Nat.reduceLeDiff, reduceCtorEq, Int.reduceNeg, Int.reduceToNat, Int.reduceEq, Int.reduceNe, Int.reduceLT, Int.reduceLE, Bool.or_self, List.length_set, Int.natCast_zero, Int.cast_ofNat_Int, hr1, hc2, hc5, hr6, hc16d, hr17, hc18d, hx22, hi21', hw23, hr25, hc29, hc33d, hr34, hc35d])
                      · have hc33d := decide_eq_false hc33
                        first | rw [if_neg hc33] at h | rw [if_neg (ne_true_of_eq_false hc33d)] at h | simp only [hc33d, Bool.not_true, Bool.not_false, Bool.false_eq_true, if_true, if_false] at h
                        refine Wk_seq ?_
                        refine Wk_regionZ fun Z hZ => ?_
                        simp (config := { maxSteps := 4000000 }) only [go_sem, Nat.reduceLT, Nat.reduceEqDiff, Nat.reduceAdd, Nat.reduceBEq, Nat.reduceMul, Nat.reduceSub, reduceIte, Nat.reduceLeDiff, reduceCtorEq, Int.reduceNeg, Int.reduceToNat, Int.reduceEq, Int.reduceNe, Int.reduceLT, Int.reduceLE, hr1, hc2, hc5, hr6, hc16d, hr17, hc18d, hx22, hi21', hw23, hr25, hc29, hc33d]
                        refine hZ _ ?_
                        repeat (with_reducible first | refine Pop.pop ?_ | refine ap_nil_i ?_ | refine ap_lp_i ?_ | refine ap_bl_next (by decide) ?_)
                        refine Wk_cond_dec rfl (fun hc36 => ?_) (fun hc36 => ?_)
                        · have hc36d := decide_eq_true hc36
                          first | rw [if_pos hc36] at h | rw [if_pos hc36d] at h | simp only [hc36d, Bool.not_true, Bool.not_false, Bool.false_eq_true, if_true, if_false] at h
                          refine Wk_seq ?_
                          obtain ⟨r63, hr37, h⟩ := Option.bind_eq_some_iff.1 h
                          refine Wk_regionZ fun Z hZ => ?_
                          simp (config := { maxSteps := 4000000 }) only [go_sem, Nat.reduceLT, Nat.reduceEqDiff, Nat.reduceAdd, Nat.reduceBEq, Nat.reduceMul, Nat.reduceSub, reduceIte, Nat.reduceLeDiff, reduceCtorEq, Int.reduceNeg, Int.reduceToNat, Int.reduceEq, Int.reduceNe, Int.reduceLT, Int.reduceLE, hr1, hc2, hc5, hr6, hc16d, hr17, hc18d, hx22, hi21', hw23, hr25, hc29, hc33d, hc36d, hr37]
                          refine hZ _ ?_
                          repeat (with_reducible first | refine Pop.pop ?_ | refine ap_nil_i ?_ | refine ap_lp_i ?_ | refine ap_bl_next (by decide) ?_)
                          refine Wk_seq ?_
                          refine Wk_regionZ fun Z hZ => ?_
                          simp (config := { maxSteps := 4000000 }) only [go_sem, Nat.reduceLT, Nat.reduceEqDiff, Nat.reduceAdd, Nat.reduceBEq, Nat.reduceMul, Nat.reduceSub, reduceIte, Nat.reduceLeDiff, reduceCtorEq, Int.reduceNeg, Int.reduceToNat, Int.reduceEq, Int.reduceNe, Int.reduceLT, Int.reduceLE, hr1, hc2, hc5, hr6, hc16d, hr17, hc18d, hx22, hi21', hw23, hr25, hc29, hc33d, hc36d, hr37]
                          refine hZ _ ?_
                          repeat (with_reducible first | refine Pop.pop ?_ | refine ap_nil_i ?_ | refine ap_lp_i ?_ | refine ap_bl_next (by decide) ?_)
                          refine Wk_cond_dec rfl (fun hc38 => ?_) (fun hc38 => ?_)
                          · have hc38d := decide_eq_true hc38
                            first | rw [if_pos hc38] at h | rw [if_pos hc38d] at h | simp only [hc38d, Bool.not_true, Bool.not_false, Bool.false_eq_true, if_true, if_false] at h
                            refine Wk_regionZ fun Z hZ => ?_
                            simp (config := { maxSteps := 4000000 }) only [go_sem, Nat.reduceLT, Nat.reduceEqDiff, Nat.reduceAdd, Nat.reduceBEq, Nat.reduceMul, Nat.reduceSub, reduceIte, Nat.reduceLeDiff, reduceCtorEq, Int.reduceNeg, Int.reduceToNat, Int.reduceEq, Int.reduceNe, Int.reduceLT, Int.reduceLE, hr1, hc2, hc5, hr6, hc16d, hr17, hc18d, hx22, hi21', hw23, hr25, hc29, hc33d, hc36d, hr37, hc38d]
                            refine hZ _ ?_
                            repeat (with_reducible first | refine Pop.pop ?_ | refine ap_nil_i ?_ | refine ap_lp_i ?_ | refine ap_bl_next (by decide) ?_)
                            refine Wk_regionZ fun Z hZ => ?_
                            simp (config := { maxSteps := 4000000 }) only [go_sem, Nat.reduceLT, Nat.reduceEqDiff, Nat.reduceAdd, Nat.reduceBEq, Nat.reduceMul, Nat.reduceSub, reduceIte, Nat.reduceLeDiff, reduceCtorEq, Int.reduceNeg, Int.reduceToNat, Int.reduceEq, Int.reduceNe, Int.reduceLT, Int.reduceLE, hr1, hc2, hc5, hr6, hc16d, hr17, hc18d, hx22, hi21', hw23, hr25, hc29, hc33d, hc36d, hr37, hc38d]
                            refine hZ _ ?_
                            repeat (with_reducible first | refine Pop.pop ?_ | refine ap_nil_i ?_ | refine ap_lp_i ?_ | refine ap_bl_next (by decide) ?_)
                            first | refine ⟨(r63.1.Name, r63.1.First, r63.1.Events, r63.1.Subs, l35, l36), ?_, h⟩ | refine ⟨hi21', (r63.1.Name, r63.1.First, r63.1.Events, r63.1.Subs, l35, l36), ?_, h⟩
                            refine weak_roots ?_ ?_
                            · (repeat' (first | exact weakX_nil | refine weakX_cons ?_ ?_)) <;> (first | rfl | simp only [go_sem, Nat.reduceLT, Nat.reduceEqDiff, Nat.reduceAdd, Nat.reduceBEq, Nat.reduceMul, Nat.reduceSub, reduceIte, Nat.reduceLeDiff, reduceCtorEq, Int.reduceNeg, Int.reduceToNat, Int.reduceEq, Int.reduceNe, Int.reduceLT, Int.reduceLE, Bool.or_self, List.length_set, Int.natCast_zero, Int.cast_ofNat_Int, hr1, hc2, hc5, hr6, hc16d, hr17, hc18d, hx22, hi21', hw23, hr25, hc29, hc33d, hc36d, hr37, hc38d])
                            · (repeat' (first | exact weakR_nil | refine weakR_cons ?_ ?_ ?_)) <;> (first | rfl | simp only [go_sem, Nat.reduceLT, Nat.reduceEqDiff, Nat.reduceAdd, Nat.reduceBEq, Nat.reduceMul, Nat.reduceSub, reduceIte, Nat.reduceLeDiff, reduceCtorEq, Int.reduceNeg, Int.reduceToNat, Int.reduceEq, Int.reduceNe, Int.reduceLT, Int.reduceLE, Bool.or_self, List.length_set, Int.natCast_zero, Int.cast_ofNat_Int, hr1, hc2, hc5, hr6, hc16d, hr17, hc18d, hx22, hi21', hw23, hr25, hc29, hc33d, hc36d, hr37, hc38d])
                          · have hc38d := decide_eq_false hc38
                            first | rw [if_neg hc38] at h | rw [if_neg (ne_true_of_eq_false hc38d)] at h | simp only [hc38d, Bool.not_true, Bool.not_false, Bool.false_eq_true, if_true, if_false] at h
                            refine Wk_skip ?_
                            repeat (with_reducible first | refine Pop.pop ?_ | refine ap_nil_i ?_ | refine ap_lp_i ?_ | refine ap_bl_next (by decide) ?_)
                            refine Wk_regionZ fun Z hZ => ?_
                            simp (config := { maxSteps := 4000000 }) only [go_sem, Nat.reduceLT, Nat.reduceEqDiff, Nat.reduceAdd, Nat.reduceBEq, Nat.reduceMul, Nat.reduceSub, reduceIte, Nat.reduceLeDiff, reduceCtorEq, Int.reduceNeg, Int.reduceToNat, Int.reduceEq, Int.reduceNe, Int.reduceLT, Int.reduceLE, hr1, hc2, hc5, hr6, hc16d, hr17, hc18d, hx22, hi21', hw23, hr25, hc29, hc33d, hc36d, hr37, hc38d]
                            refine hZ _ ?_
                            repeat (with_reducible first | refine Pop.pop ?_ | refine ap_nil_i ?_ | refine ap_lp_i ?_ | refine ap_bl_next (by decide) ?_)
                            first | refine ⟨(s31, v32, l33, l34, l35, l36), ?_, h⟩ | refine ⟨hi21', (s31, v32, l33, l34, l35, l36), ?_, h⟩
                            refine weak_roots ?_ ?_
                            · (repeat' (first | exact weakX_nil | refine weakX_cons ?_ ?_)) <;> (first | rfl | simp only [go_sem, Nat.reduceLT, Nat.reduceEqDiff, Nat.reduceAdd, Nat.reduceBEq, Nat.reduceMul, Nat.reduceSub, reduceIte, Nat.reduceLeDiff, reduceCtorEq, Int.reduceNeg, Int.reduceToNat, Int.reduceEq, Int.reduceNe, Int.reduceLT, Int.reduceLE, Bool.or_self, List.length_set, Int.natCast_zero, Int.cast_ofNat_Int, hr1, hc2, hc5, hr6, hc16d, hr17, hc18d, hx22, hi21', hw23, hr25, hc29, hc33d, hc36d, hr37, hc38d])
                            · (repeat' (first | exact weakR_nil | refine weakR_cons ?_ ?_ ?_)) <;> (first | rfl | simp only [go_sem, Nat.reduceLT, Nat.reduceEqDiff, Nat.reduceAdd, Nat.reduceBEq, Nat.reduceMul, Nat.reduceSub, reduceIte, Nat.reduceLeDiff, reduceCtorEq, Int.reduceNeg, Int.reduceToNat, Int.reduceEq, Int.reduceNe, Int.reduceLT, Int.reduceLE, Bool.or_self, List.length_set, Int.natCast_zero, Int.cast_ofNat_Int, hr1, hc2, hc5, hr6, hc16d, hr17, hc18d, hx22, hi21', hw23, hr25, hc29, hc33d, hc36d, hr37, hc38d])
                        · have hc36d := decide_eq_false hc36
                          first | rw [if_neg hc36] at h | rw [if_neg (ne_true_of_eq_false hc36d)] at h | simp only [hc36d, Bool.not_true, Bool.not_false, Bool.false_eq_true, if_true, if_false] at h
                          refine Wk_seq ?_
                          refine Wk_regionZ fun Z hZ => ?_
                          simp (config := { maxSteps := 4000000 }) only [go_sem, Nat.reduceLT, Nat.reduceEqDiff, Nat.reduceAdd, Nat.reduceBEq, Nat.reduceMul, Nat.reduceSub, reduceIte, Nat.reduceLeDiff, reduceCtorEq, Int.reduceNeg, Int.reduceToNat, Int.reduceEq, Int.reduceNe, Int.reduceLT, Int.reduceLE, hr1, hc2, hc5, hr6, hc16d, hr17, hc18d, hx22, hi21', hw23, hr25, hc29, hc33d, hc36d]
                          refine hZ _ ?_
                          repeat (with_reducible first | refine Pop.pop ?_ | refine ap_nil_i ?_ | refine ap_lp_i ?_ | refine ap_bl_next (by decide) ?_)
                          refine Wk_cond_dec rfl (fun hc39 => ?_) (fun hc39 => ?_)
                          · have hc39d := decide_eq_true hc39
                            first | rw [if_pos hc39] at h | rw [if_pos hc39d] at h | simp only [hc39d, Bool.not_true, Bool.not_false, Bool.false_eq_true, if_true, if_false] at h
                            obtain ⟨r64, hr40, h⟩ := Option.bind_eq_some_iff.1 h
                            refine Wk_regionZ fun Z hZ => ?_
                            simp (config := { maxSteps := 4000000 }) only [go_sem, Nat.reduceLT, Nat.reduceEqDiff, Nat.reduceAdd, Nat.reduceBEq, Nat.reduceMul, Nat.reduceSub, reduceIte, Nat.reduceLeDiff, reduceCtorEq, Int.reduceNeg, Int.reduceToNat, Int.reduceEq, Int.reduceNe, Int.reduceLT, Int.reduceLE, hr1, hc2, hc5, hr6, hc16d, hr17, hc18d, hx22, hi21', hw23, hr25, hc29, hc33d, hc36d, hc39d, hr40]
                            refine hZ _ ?_
                            repeat (with_reducible first | refine Pop.pop ?_ | refine ap_nil_i ?_ | refine ap_lp_i ?_ | refine ap_bl_next (by decide) ?_)
                            refine Wk_regionZ fun Z hZ => ?_
                            simp (config := { maxSteps := 4000000 }) only [go_sem, Nat.reduceLT, Nat.reduceEqDiff, Nat.reduceAdd, Nat.reduceBEq, Nat.reduceMul, Nat.reduceSub, reduceIte, Nat.reduceLeDiff, reduceCtorEq, Int.reduceNeg, Int.reduceToNat, Int.reduceEq, Int.reduceNe, Int.reduceLT, Int.reduceLE, hr1, hc2, hc5, hr6, hc16d, hr17, hc18d, hx22, hi21', hw23, hr25, hc29, hc33d, hc36d, hc39d, hr40]
                            refine hZ _ ?_
                            repeat (with_reducible first | refine Pop.pop ?_ | refine ap_nil_i ?_ | refine ap_lp_i ?_ | refine ap_bl_next (by decide) ?_)
                            first | refine ⟨(r64.Name, r64.First, r64.Events, r64.Subs, l35, l36), ?_, h⟩ | refine ⟨hi21', (r64.Name, r64.First, r64.Events, r64.Subs, l35, l36), ?_, h⟩
                            refine weak_roots ?_ ?_
                            · (repeat' (first | exact weakX_nil | refine weakX_cons ?_ ?_)) <;> (first | rfl | simp only [go_sem, Nat.reduceLT, Nat.reduceEqDiff, Nat.reduceAdd, Nat.reduceBEq, Nat.reduceMul, Nat.reduceSub, reduceIte, Nat.reduceLeDiff, reduceCtorEq, Int.reduceNeg, Int.reduceToNat, Int.reduceEq, Int.reduceNe, Int.reduceLT, Int.reduceLE, Bool.or_self, List.length_set, Int.natCast_zero, Int.cast_ofNat_Int, hr1, hc2, hc5, hr6, hc16d, hr17, hc18d, hx22, hi21', hw23, hr25, hc29, hc33d, hc36d, hc39d, hr40])
                            · (repeat' (first | exact weakR_nil | refine weakR_cons ?_ ?_ ?_)) <;> (first | rfl | simp only [go_sem, Nat.reduceLT, Nat.reduceEqDiff, Nat.reduceAdd, Nat.reduceBEq, Nat.reduceMul, Nat.reduceSub, reduceIte, Nat.reduceLeDiff, reduceCtorEq, Int.reduceNeg, Int.reduceToNat, Int.reduceEq, Int.reduceNe, Int.reduceLT, Int.reduceLE, Bool.or_self, List.length_set, Int.natCast_zero, Int.cast_ofNat_Int, hr1, hc2, hc5, hr6, hc16d, hr17, hc18d, hx22, hi21', hw23, hr25, hc29, hc33d, hc36d, hc39d, hr40])
                          · have hc39d := decide_eq_false hc39
                            first | rw [if_neg hc39] at h | rw [if_neg (ne_true_of_eq_false hc39d)] at h | simp only [hc39d, Bool.not_true, Bool.not_false, Bool.false_eq_true, if_true, if_false] at h
                            refine Wk_seq ?_
                            obtain ⟨r65, hr41, h⟩ := Option.bind_eq_some_iff.1 h
                            refine Wk_regionZ fun Z hZ => ?_
                            simp (config := { maxSteps := 4000000 }) only [go_sem, Nat.reduceLT, Nat.reduceEqDiff, Nat.reduceAdd, Nat.reduceBEq, Nat.reduceMul, Nat.reduceSub, reduceIte, Nat.reduceLeDiff, reduceCtorEq, Int.reduceNeg, Int.reduceToNat, Int.reduceEq, Int.reduceNe, Int.reduceLT, Int.reduceLE, hr1, hc2, hc5, hr6, hc16d, hr17, hc18d, hx22, hi21', hw23, hr25, hc29, hc33d, hc36d, hc39d, hr41]
                            refine hZ _ ?_
                            repeat (with_reducible first | refine Pop.pop ?_ | refine ap_nil_i ?_ | refine ap_lp_i ?_ | refine ap_bl_next (by decide) ?_)
                            refine Wk_seq ?_
                            refine Wk_seq ?_
                            refine Wk_regionZ fun Z hZ => ?_
                            simp (config := { maxSteps := 4000000 }) only [go_sem, Nat.reduceLT, Nat.reduceEqDiff, Nat.reduceAdd, Nat.reduceBEq, Nat.reduceMul, Nat.reduceSub, reduceIte, Nat.reduceLeDiff, reduceCtorEq, Int.reduceNeg, Int.reduceToNat, Int.reduceEq, Int.reduceNe, Int.reduceLT, Int.reduceLE, hr1, hc2, hc5, hr6, hc16d, hr17, hc18d, hx22, hi21', hw23, hr25, hc29, hc33d, hc36d, hc39d, hr41]
                            refine hZ _ ?_
                            repeat (with_reducible first | refine Pop.pop ?_ | refine ap_nil_i ?_ | refine ap_lp_i ?_ | refine ap_bl_next (by decide) ?_)
                            refine Wk_cond_dec rfl (fun hc42 => ?_) (fun hc42 => ?_)
                            · have hc42d := decide_eq_true hc42
                              first | rw [if_pos hc42] at h | rw [if_pos hc42d] at h | simp only [hc42d, Bool.not_true, Bool.not_false, Bool.false_eq_true, if_true, if_false] at h
                              refine Wk_exit ?_
                              repeat (with_reducible first | refine Pop.pop ?_ | refine ap_nil_i ?_ | refine ap_lp_i ?_ | refine ap_bl_next (by decide) ?_)
                              refine Wk_regionZ fun Z hZ => ?_
                              simp (config := { maxSteps := 4000000 }) only [go_sem, Nat.reduceLT, Nat.reduceEqDiff, Nat.reduceAdd, Nat.reduceBEq, Nat.reduceMul, Nat.reduceSub, reduceIte, Nat.reduceLeDiff, reduceCtorEq, Int.reduceNeg, Int.reduceToNat, Int.reduceEq, Int.reduceNe, Int.reduceLT, Int.reduceLE, hr1, hc2, hc5, hr6, hc16d, hr17, hc18d, hx22, hi21', hw23, hr25, hc29, hc33d, hc36d, hc39d, hr41, hc42d]
                              refine hZ _ ?_
                              repeat (with_reducible first | refine Pop.pop ?_ | refine ap_nil_i ?_ | refine ap_lp_i ?_ | refine ap_bl_next (by decide) ?_)
                              first | refine ⟨(s31, v32, l33, l34, l35, l36), ?_, h⟩ | refine ⟨hi21', (s31, v32, l33, l34, l35, l36), ?_, h⟩
                              refine weak_roots ?_ ?_
                              · (repeat' (first | exact weakX_nil | refine weakX_cons ?_ ?_)) <;> (first | rfl | simp only [go_sem, Nat.reduceLT, Nat.reduceEqDiff, Nat.reduceAdd, Nat.reduceBEq, Nat.reduceMul, Nat.reduceSub, reduceIte, Nat.reduceLeDiff, reduceCtorEq, Int.reduceNeg, Int.reduceToNat, Int.reduceEq, Int.reduceNe, Int.reduceLT, Int.reduceLE, Bool.or_self, List.length_set, Int.natCast_zero, Int.cast_ofNat_Int, hr1, hc2, hc5, hr6, hc16d, hr17, hc18d, hx22, hi21', hw23, hr25, hc29, hc33d, hc36d, hc39d, hr41, hc42d])
                              · (repeat' (first | exact weakR_nil | refine weakR_cons ?_ ?_ ?_)) <;> (first | rfl | simp only [go_sem, Nat.reduceLT, Nat.reduceEqDiff, Nat.reduceAdd, Nat.reduceBEq, Nat.reduceMul, Nat.reduceSub, reduceIte, Nat.reduceLeDiff, reduceCtorEq, Int.reduceNeg, Int.reduceToNat, Int.reduceEq, Int.reduceNe, Int.reduceLT, Int.reduceLE, Bool.or_self, List.length_set, Int.natCast_zero, Int.cast_ofNat_Int, hr1, hc2, hc5, hr6, hc16d, hr17, hc18d, hx22, hi21', hw23, hr25, hc29, hc33d, hc36d, hc39d, hr41, hc42d])
                            · have hc42d := decide_eq_false hc42
                              first | rw [if_neg hc42] at h | rw [if_neg (ne_true_of_eq_false hc42d)] at h | simp only [hc42d, Bool.not_true, Bool.not_false, Bool.false_eq_true, if_true, if_false] at h
                              refine Wk_skip ?_
                              repeat (with_reducible first | refine Pop.pop ?_ | refine ap_nil_i ?_ | refine ap_lp_i ?_ | refine ap_bl_next (by decide) ?_)
                              refine Wk_seq ?_
                              try rw [gx_nat hx22] at h
                              obtain ⟨hd43, h⟩ := dvx_some h
                              obtain ⟨x66, hb44, hx45, h⟩ := gx_some h
                              refine Wk_regionZ fun Z hZ => ?_
                              simp (config := { maxSteps := 4000000 }) only [go_sem, Nat.reduceLT, Nat.reduceEqDiff, Nat.reduceAdd, Nat.reduceBEq, Nat.reduceMul, Nat.reduceSub, reduceIte, Nat.reduceLeDiff, reduceCtorEq, Int.reduceNeg, Int.reduceToNat, Int.reduceEq, Int.reduceNe, Int.reduceLT, Int.reduceLE, hr1, hc2, hc5, hr6, hc16d, hr17, hc18d, hx22, hi21', hw23, hr25, hc29, hc33d, hc36d, hc39d, hr41, hc42d, hd43, hb44, hx45]
                              refine hZ _ ?_
                              repeat (with_reducible first | refine Pop.pop ?_ | refine ap_nil_i ?_ | refine ap_lp_i ?_ | refine ap_bl_next (by decide) ?_)
                              refine Wk_seq ?_
                              obtain ⟨r67, hr46, h⟩ := Option.bind_eq_some_iff.1 h
                              refine Wk_regionZ fun Z hZ => ?_
                              simp (config := { maxSteps := 4000000 }) only [go_sem, Nat.reduceLT, Nat.reduceEqDiff, Nat.reduceAdd, Nat.reduceBEq, Nat.reduceMul, Nat.reduceSub, reduceIte, Nat.reduceLeDiff, reduceCtorEq, Int.reduceNeg, Int.reduceToNat, Int.reduceEq, Int.reduceNe, Int.reduceLT, Int.reduceLE, hr1, hc2, hc5, hr6, hc16d, hr17, hc18d, hx22, hi21', hw23, hr25, hc29, hc33d, hc36d, hc39d, hr41, hc42d, hd43, hb44, hx45, hr46]
                              refine hZ _ ?_
                              repeat (with_reducible first | refine Pop.pop ?_ | refine ap_nil_i ?_ | refine ap_lp_i ?_ | refine ap_bl_next (by decide) ?_)
                              refine Wk_seq ?_
                              refine Wk_seq ?_
                              refine Wk_regionZ fun Z hZ => ?_
                              simp (config := { maxSteps := 4000000 }) only [go_sem, Nat.reduceLT, Nat.reduceEqDiff, Nat.reduceAdd, Nat.reduceBEq, Nat.reduceMul, Nat.reduceSub, reduceIte, Nat.reduceLeDiff, reduceCtorEq, Int.reduceNeg, Int.reduceToNat, Int.reduceEq, Int.reduceNe, Int.reduceLT, Int.reduceLE, hr1, hc2, hc5, hr6, hc16d, hr17, hc18d, hx22, hi21', hw23, hr25, hc29, hc33d, hc36d, hc39d, hr41, hc42d, hd43, hb44, hx45, hr46]
                              refine hZ _ ?_
                              repeat (with_reducible first | refine Pop.pop ?_ | refine ap_nil_i ?_ | refine ap_lp_i ?_ | refine ap_bl_next (by decide) ?_)
                              refine Wk_cond_ndec rfl (fun hc47 => ?_) (fun hc47 => ?_)
                              · have hc47d := decide_eq_false hc47
                                first | rw [if_neg hc47] at h | rw [if_neg (ne_true_of_eq_false hc47d)] at h | simp only [hc47d, Bool.not_true, Bool.not_false, Bool.false_eq_true, if_true, if_false] at h
                                refine Wk_seq ?_
                                refine Wk_regionZ fun Z hZ => ?_
                                simp (config := { maxSteps := 4000000 }) only [go_sem, Nat.reduceLT, Nat.reduceEqDiff, Nat.reduceAdd, Nat.reduceBEq, Nat.reduceMul, Nat.reduceSub, reduceIte, Nat.reduceLeDiff, reduceCtorEq, Int.reduceNeg, Int.reduceToNat, Int.reduceEq, Int.reduceNe, Int.reduceLT, Int.reduceLE, hr1, hc2, hc5, hr6, hc16d, hr17, hc18d, hx22, hi21', hw23, hr25, hc29, hc33d, hc36d, hc39d, hr41, hc42d, hd43, hb44, hx45, hr46, hc47d]
                                refine hZ _ ?_
                                repeat (with_reducible first | refine Pop.pop ?_ | refine ap_nil_i ?_ | refine ap_lp_i ?_ | refine ap_bl_next (by decide) ?_)
                                refine Wk_ret ?_
                                repeat (with_reducible first | refine Pop.pop ?_ | refine ap_nil_i ?_ | refine ap_lp_i ?_ | refine ap_bl_next (by decide) ?_)
                                simp (config := { maxSteps := 4000000 }) only [go_sem, Nat.reduceLT, Nat.reduceEqDiff, Nat.reduceAdd, Nat.reduceBEq, Nat.reduceMul, Nat.reduceSub, reduceIte, Nat.reduceLeDiff, reduceCtorEq, Int.reduceNeg, Int.reduceToNat, Int.reduceEq, Int.reduceNe, Int.reduceLT, Int.reduceLE, hr1, hc2, hc5, hr6, hc16d, hr17, hc18d, hx22, hi21', hw23, hr25, hc29, hc33d, hc36d, hc39d, hr41, hc42d, hd43, hb44, hx45, hr46, hc47d, FinW_ret, List.length_set, List.take_length]
                                obtain rfl := Option.some.inj h
                                exact ⟨_, rfl, (by exact ROk.refl _), (by repeat' (first | exact PureC.val _ | refine PureC.tup ?_ | refine PureC.agg ?_ | exact pure_nil | refine pure_cons ?_ ?_))⟩
                              · have hc47d := decide_eq_true hc47
                                first | rw [if_pos hc47] at h | rw [if_pos hc47d] at h | simp only [hc47d, Bool.not_true, Bool.not_false, Bool.false_eq_true, if_true, if_false] at h
                                refine Wk_skip ?_
                                repeat (with_reducible first | refine Pop.pop ?_ | refine ap_nil_i ?_ | refine ap_lp_i ?_ | refine ap_bl_next (by decide) ?_)
                                refine Wk_seq ?_
                                refine Wk_regionZ fun Z hZ => ?_
                                simp (config := { maxSteps := 4000000 }) only [go_sem, Nat.reduceLT, Nat.reduceEqDiff, Nat.reduceAdd, Nat.reduceBEq, Nat.reduceMul, Nat.reduceSub, reduceIte, Nat.reduceLeDiff, reduceCtorEq, Int.reduceNeg, Int.reduceToNat, Int.reduceEq, Int.reduceNe, Int.reduceLT, Int.reduceLE, hr1, hc2, hc5, hr6, hc16d, hr17, hc18d, hx22, hi21', hw23, hr25, hc29, hc33d, hc36d, hc39d, hr41, hc42d, hd43, hb44, hx45, hr46, hc47d]
                                refine hZ _ ?_
                                repeat (with_reducible first | refine Pop.pop ?_ | refine ap_nil_i ?_ | refine ap_lp_i ?_ | refine ap_bl_next (by decide) ?_)
                                refine Wk_seq ?_
                                refine Wk_regionZ fun Z hZ => ?_
                                simp (config := { maxSteps := 4000000 }) only [go_sem, Nat.reduceLT, Nat.reduceEqDiff, Nat.reduceAdd, Nat.reduceBEq, Nat.reduceMul, Nat.reduceSub, reduceIte, Nat.reduceLeDiff, reduceCtorEq, Int.reduceNeg, Int.reduceToNat, Int.reduceEq, Int.reduceNe, Int.reduceLT, Int.reduceLE, hr1, hc2, hc5, hr6, hc16d, hr17, hc18d, hx22, hi21', hw23, hr25, hc29, hc33d, hc36d, hc39d, hr41, hc42d, hd43, hb44, hx45, hr46, hc47d]
                                refine hZ _ ?_
                                repeat (with_reducible first | refine Pop.pop ?_ | refine ap_nil_i ?_ | refine ap_lp_i ?_ | refine ap_bl_next (by decide) ?_)
                                refine Wk_cond_bool rfl (fun hc48 => ?_) (fun hc48 => ?_)
                                · first | rw [if_pos hc48] at h | simp only [hc48, hc2, hc5, hc29, Bool.or_false, Bool.or_true, Bool.false_or, Bool.true_or, Bool.and_true, Bool.true_and, Bool.and_false, Bool.false_and, Bool.not_true, Bool.not_false, Bool.false_eq_true, if_true, if_false] at h
                                  obtain ⟨ha49, h⟩ := apx_some h
                                  simp only [List.length_cons, List.length_nil, Nat.zero_add, Nat.add_zero, Nat.reduceAdd] at ha49
                                  refine Wk_regionZ fun Z hZ => ?_
                                  simp (config := { maxSteps := 4000000 }) only [go_sem, Nat.reduceLT, Nat.reduceEqDiff, Nat.reduceAdd, Nat.reduceBEq, Nat.reduceMul, Nat.reduceSub, reduceIte, Nat.reduceLeDiff, reduceCtorEq, Int.reduceNeg, Int.reduceToNat, Int.reduceEq, Int.reduceNe, Int.reduceLT, Int.reduceLE, hr1, hc2, hc5, hr6, hc16d, hr17, hc18d, hx22, hi21', hw23, hr25, hc29, hc33d, hc36d, hc39d, hr41, hc42d, hd43, hb44, hx45, hr46, hc47d, hc48, ha49]
                                  refine hZ _ ?_
                                  repeat (with_reducible first | refine Pop.pop ?_ | refine ap_nil_i ?_ | refine ap_lp_i ?_ | refine ap_bl_next (by decide) ?_)
                                  refine Wk_regionZ fun Z hZ => ?_
                                  simp (config := { maxSteps := 4000000 }) only [go_sem, Nat.reduceLT, Nat.reduceEqDiff, Nat.reduceAdd, Nat.reduceBEq, Nat.reduceMul, Nat.reduceSub, reduceIte, Nat.reduceLeDiff, reduceCtorEq, Int.reduceNeg, Int.reduceToNat, Int.reduceEq, Int.reduceNe, Int.reduceLT, Int.reduceLE, hr1, hc2, hc5, hr6, hc16d, hr17, hc18d, hx22, hi21', hw23, hr25, hc29, hc33d, hc36d, hc39d, hr41, hc42d, hd43, hb44, hx45, hr46, hc47d, hc48, ha49]
                                  refine hZ _ ?_
                                  repeat (with_reducible first | refine Pop.pop ?_ | refine ap_nil_i ?_ | refine ap_lp_i ?_ | refine ap_bl_next (by decide) ?_)
                                  first | refine ⟨(r67.1.Name, r67.1.First, r67.1.Events, r67.1.Subs, l35, (l36 ++ [x66.Value])), ?_, h⟩ | refine ⟨hi21', (r67.1.Name, r67.1.First, r67.1.Events, r67.1.Subs, l35, (l36 ++ [x66.Value])), ?_, h⟩
                                  refine weak_roots ?_ ?_
                                  · (repeat' (first | exact weakX_nil | refine weakX_cons ?_ ?_)) <;> (first | rfl | simp only [go_sem, Nat.reduceLT, Nat.reduceEqDiff, Nat.reduceAdd, Nat.reduceBEq, Nat.reduceMul, Nat.reduceSub, reduceIte, Nat.reduceLeDiff, reduceCtorEq, Int.reduceNeg, Int.reduceToNat, Int.reduceEq, Int.reduceNe, Int.reduceLT, Int.reduceLE, Bool.or_self, List.length_set, Int.natCast_zero, Int.cast_ofNat_Int, hr1, hc2, hc5, hr6, hc16d, hr17, hc18d, hx22, hi21', hw23, hr25, hc29, hc33d, hc36d, hc39d, hr41, hc42d, hd43, hb44, hx45, hr46, hc47d, hc48, ha49])
                                  · (repeat' (first | exact weakR_nil | refine weakR_cons ?_ ?_ ?_)) <;> (first | rfl | simp only [go_sem, Nat.reduceLT, Nat.reduceEqDiff, Nat.reduceAdd, Nat.reduceBEq, Nat.reduceMul, Nat.reduceSub, reduceIte, Nat.reduceLeDiff, reduceCtorEq, Int.reduceNeg, Int.reduceToNat, Int.reduceEq, Int.reduceNe, Int.reduceLT, Int.reduceLE, Bool.or_self, List.length_set, Int.natCast_zero, Int.cast_ofNat_Int, hr1, hc2, hc5, hr6, hc16d, hr17, hc18d, hx22, hi21', hw23, hr25, hc29, hc33d, hc36d, hc39d, hr41, hc42d, hd43, hb44, hx45, hr46, hc47d, hc48, ha49])
                                · first | rw [if_neg (ne_true_of_eq_false hc48)] at h | simp only [hc48, hc2, hc5, hc29, Bool.or_false, Bool.or_true, Bool.false_or, Bool.true_or, Bool.and_true, Bool.true_and, Bool.and_false, Bool.false_and, Bool.not_true, Bool.not_false, Bool.false_eq_true, if_true, if_false] at h
                                  refine Wk_skip ?_
                                  repeat (with_reducible first | refine Pop.pop ?_ | refine ap_nil_i ?_ | refine ap_lp_i ?_ | refine ap_bl_next (by decide) ?_)
                                  refine Wk_regionZ fun Z hZ => ?_
                                  simp (config := { maxSteps := 4000000 }) only [go_sem, Nat.reduceLT, Nat.reduceEqDiff, Nat.reduceAdd, Nat.reduceBEq, Nat.reduceMul, Nat.reduceSub, reduceIte, Nat.reduceLeDiff, reduceCtorEq, Int.reduceNeg, Int.reduceToNat, Int.reduceEq, Int.reduceNe, Int.reduceLT, Int.reduceLE, hr1, hc2, hc5, hr6, hc16d, hr17, hc18d, hx22, hi21', hw23, hr25, hc29, hc33d, hc36d, hc39d, hr41, hc42d, hd43, hb44, hx45, hr46, hc47d, hc48]
                                  refine hZ _ ?_
                                  repeat (with_reducible first | refine Pop.pop ?_ | refine ap_nil_i ?_ | refine ap_lp_i ?_ | refine ap_bl_next (by decide) ?_)
                                  first | refine ⟨(r67.1.Name, r67.1.First, r67.1.Events, r67.1.Subs, l35, l36), ?_, h⟩ | refine ⟨hi21', (r67.1.Name, r67.1.First, r67.1.Events, r67.1.Subs, l35, l36), ?_, h⟩
                                  refine weak_roots ?_ ?_
                                  · (repeat' (first | exact weakX_nil | refine weakX_cons ?_ ?_)) <;> (first | rfl | simp only [go_sem, Nat.reduceLT, Nat.reduceEqDiff, Nat.reduceAdd, Nat.reduceBEq, Nat.reduceMul, Nat.reduceSub, reduceIte, Nat.reduceLeDiff, reduceCtorEq, Int.reduceNeg, Int.reduceToNat, Int.reduceEq, Int.reduceNe, Int.reduceLT, Int.reduceLE, Bool.or_self, List.length_set, Int.natCast_zero, Int.cast_ofNat_Int, hr1, hc2, hc5, hr6, hc16d, hr17, hc18d, hx22, hi21', hw23, hr25, hc29, hc33d, hc36d, hc39d, hr41, hc42d, hd43, hb44, hx45, hr46, hc47d, hc48])
                                  · (repeat' (first | exact weakR_nil | refine weakR_cons ?_ ?_ ?_)) <;> (first | rfl | simp only [go_sem, Nat.reduceLT, Nat.reduceEqDiff, Nat.reduceAdd, Nat.reduceBEq, Nat.reduceMul, Nat.reduceSub, reduceIte, Nat.reduceLeDiff, reduceCtorEq, Int.reduceNeg, Int.reduceToNat, Int.reduceEq, Int.reduceNe, Int.reduceLT, Int.reduceLE, Bool.or_self, List.length_set, Int.natCast_zero, Int.cast_ofNat_Int, hr1, hc2, hc5, hr6, hc16d, hr17, hc18d, hx22, hi21', hw23, hr25, hc29, hc33d, hc36d, hc39d, hr41, hc42d, hd43, hb44, hx45, hr46, hc47d, hc48])
                · rw [hd24] at h
                  simp only [law30_StreamsOnce_L2] at h
                  refine Wk_seq ?_
                  refine Wk_seq ?_
                  refine Wk_regionZ fun Z hZ => ?_
                  simp (config := { maxSteps := 4000000 }) only [go_sem, Nat.reduceLT, Nat.reduceEqDiff, Nat.reduceAdd, Nat.reduceBEq, Nat.reduceMul, Nat.reduceSub, reduceIte, Nat.reduceLeDiff, reduceCtorEq, Int.reduceNeg, Int.reduceToNat, Int.reduceEq, Int.reduceNe, Int.reduceLT, Int.reduceLE, hr1, hc2, hc5, hr6, hc16d, hr17, hc18d, hi21']
                  refine hZ _ ?_
                  repeat (with_reducible first | refine Pop.pop ?_ | refine ap_nil_i ?_ | refine ap_lp_i ?_ | refine ap_bl_next (by decide) ?_)
                  try simp only [Int.ofNat_lt, hi21', if_true, if_false] at h
                  refine Wk_cond_f rfl ?_
                  refine Wk_exit ?_
                  repeat (with_reducible first | refine Pop.pop ?_ | refine ap_nil_i ?_ | refine ap_lp_i ?_ | refine ap_bl_next (by decide) ?_)
                  unfold law30_StreamsOnce_J5 at h
                  refine Wk_seq ?_
                  refine Wk_seq ?_
                  refine Wk_regionZ fun Z hZ => ?_
                  simp (config := { maxSteps := 4000000 }) only [go_sem, Nat.reduceLT, Nat.reduceEqDiff, Nat.reduceAdd, Nat.reduceBEq, Nat.reduceMul, Nat.reduceSub, reduceIte, Nat.reduceLeDiff, reduceCtorEq, Int.reduceNeg, Int.reduceToNat, Int.reduceEq, Int.reduceNe, Int.reduceLT, Int.reduceLE, hr1, hc2, hc5, hr6, hc16d, hr17, hc18d, hi21']
                  refine hZ _ ?_
                  repeat (with_reducible first | refine Pop.pop ?_ | refine ap_nil_i ?_ | refine ap_lp_i ?_ | refine ap_bl_next (by decide) ?_)
                  refine Wk_block ?_
                  refine Wk_real fun hreal51 => ?_
                  have hl50 := hreal51.lenX 134 (by simp only [go_sem, Nat.reduceLT, Nat.reduceEqDiff, Nat.reduceAdd, Nat.reduceBEq, Nat.reduceMul, Nat.reduceSub, reduceIte, Nat.reduceLeDiff, reduceCtorEq, Int.reduceNeg, Int.reduceToNat, Int.reduceEq, Int.reduceNe, Int.reduceLT, Int.reduceLE, Bool.or_self, List.length_set, Int.natCast_zero, Int.cast_ofNat_Int, hr1, hc2, hc5, hr6, hc16d, hr17, hc18d, hi21']; rfl)
                  rw [List.length_map] at hl50
                  refine Wk_range (fun (v70 : Nat) (b : Unit) => ⟨tab 244 (updT (updT (updT (updT (updT deadT 5 (.pref 5 [] 0 0)) 8 (.pref 8 [] 0 0)) 9 (.pal 160 [] 0 l35.length none)) 10 (.pal 134 [] 0 l36.length none)) 25 (.val (.int .i64 ((v70 : Nat) : Int)))), (upd (upd (upd (upd RZ 5 (.sl true none 4 (some 1) [[.val (.string s31), .val (.int .i64 v32), .sl false none 1 none (l33.map (rowI .i64)), .sl false none 4 none (l34.map Sub.row)]])) 8 (.sl true none 2 (some 1) [[.val (.string (⟨#[90]⟩)), .val (.string (⟨#[122]⟩))]])) 134 (.sl true none 1 none (l36.map (rowI .i64)))) 160 (.sl true none 1 none (l35.map (rowI .i64))))⟩) () h ?_ ?_
                  · refine weak_roots ?_ ?_
                    · (repeat' (first | exact weakX_nil | refine weakX_cons ?_ ?_)) <;> (first | rfl | simp only [go_sem, Nat.reduceLT, Nat.reduceEqDiff, Nat.reduceAdd, Nat.reduceBEq, Nat.reduceMul, Nat.reduceSub, reduceIte, Nat.reduceLeDiff, reduceCtorEq, Int.reduceNeg, Int.reduceToNat, Int.reduceEq, Int.reduceNe, Int.reduceLT, Int.reduceLE, Bool.or_self, List.length_set, Int.natCast_zero, Int.cast_ofNat_Int, hr1, hc2, hc5, hr6, hc16d, hr17, hc18d, hi21'])
                    · (repeat' (first | exact weakR_nil | refine weakR_cons ?_ ?_ ?_)) <;> (first | rfl | simp only [go_sem, Nat.reduceLT, Nat.reduceEqDiff, Nat.reduceAdd, Nat.reduceBEq, Nat.reduceMul, Nat.reduceSub, reduceIte, Nat.reduceLeDiff, reduceCtorEq, Int.reduceNeg, Int.reduceToNat, Int.reduceEq, Int.reduceNe, Int.reduceLT, Int.reduceLE, Bool.or_self, List.length_set, Int.natCast_zero, Int.cast_ofNat_Int, hr1, hc2, hc5, hr6, hc16d, hr17, hc18d, hi21'])
                  · rintro v70 ⟨⟩ hi52 h -
                    rcases drop_cases l36 v70 hi52 with ⟨x73, hi52', hx53, hd55⟩ | ⟨hi52', _, hd55⟩
                    · rw [hd55] at h
                      simp only [law30_StreamsOnce_L3] at h
                      have hw54 := wrap_succ hi52' hl50
                      refine Wk_seq ?_
                      refine Wk_seq ?_
                      refine Wk_regionZ fun Z hZ => ?_
                      simp (config := { maxSteps := 4000000 }) only [go_sem, Nat.reduceLT, Nat.reduceEqDiff, Nat.reduceAdd, Nat.reduceBEq, Nat.reduceMul, Nat.reduceSub, reduceIte, Nat.reduceLeDiff, reduceCtorEq, Int.reduceNeg, Int.reduceToNat, Int.reduceEq, Int.reduceNe, Int.reduceLT, Int.reduceLE, hr1, hc2, hc5, hr6, hc16d, hr17, hc18d, hi21', hx53, hi52', hw54]
                      refine hZ _ ?_
                      repeat (with_reducible first | refine Pop.pop ?_ | refine ap_nil_i ?_ | refine ap_lp_i ?_ | refine ap_bl_next (by decide) ?_)
                      try simp only [Int.ofNat_lt, hi21', hi52', if_true, if_false] at h
                      refine Wk_cond_t rfl ?_
                      refine Wk_skip ?_
                      repeat (with_reducible first | refine Pop.pop ?_ | refine ap_nil_i ?_ | refine ap_lp_i ?_ | refine ap_bl_next (by decide) ?_)
                      refine Wk_seq ?_
                      refine Wk_block ?_
                      apply Wk_join1 (fun (c78 : Bool) => ⟨tab 244 (updT (updT (updT (updT (updT (updT deadT 5 (.pref 5 [] 0 0)) 8 (.pref 8 [] 0 0)) 9 (.pal 160 [] 0 l35.length none)) 10 (.pal 134 [] 0 l36.length none)) 25 (.val (.int .i64 ((v70 : Nat) : Int)))) 209 (.val (.bool c78))), (upd (upd (upd (upd RZ 5 (.sl true none 4 (some 1) [[.val (.string s31), .val (.int .i64 v32), .sl false none 1 none (l33.map (rowI .i64)), .sl false none 4 none (l34.map Sub.row)]])) 8 (.sl true none 2 (some 1) [[.val (.string (⟨#[90]⟩)), .val (.string (⟨#[122]⟩))]])) 134 (.sl true none 1 none (l36.map (rowI .i64)))) 160 (.sl true none 1 none (l35.map (rowI .i64))))⟩)
                      · intro hJ56
                        refine Wk_regionD fun Z hZ => ?_
                        simp (config := { maxSteps := 4000000 }) only [go_sem, Nat.reduceLT, Nat.reduceEqDiff, Nat.reduceAdd, Nat.reduceBEq, Nat.reduceMul, Nat.reduceSub, reduceIte, Nat.reduceLeDiff, reduceCtorEq, Int.reduceNeg, Int.reduceToNat, Int.reduceEq, Int.reduceNe, Int.reduceLT, Int.reduceLE, hr1, hc2, hc5, hr6, hc16d, hr17, hc18d, hi21', hx53, hi52', hw54]
                        repeat' ((with_reducible refine and_bar ?_ ?_); kernel_rfl)
                        refine RX_guard_dec rfl (fun hc57 => ?_) (fun hc57 => ?_)
                        · have hc57d := decide_eq_true hc57
                          first | rw [if_pos hc57] at h | rw [if_pos hc57d] at h | simp only [hc57d, Bool.not_true, Bool.not_false, Bool.false_eq_true, if_true, if_false] at h
                          simp (config := { maxSteps := 4000000 }) only [go_sem, Nat.reduceLT, Nat.reduceEqDiff, Nat.reduceAdd, Nat.reduceBEq, Nat.reduceMul, Nat.reduceSub, reduceIte, Nat.reduceLeDiff, reduceCtorEq, Int.reduceNeg, Int.reduceToNat, Int.reduceEq, Int.reduceNe, Int.reduceLT, Int.reduceLE, hr1, hc2, hc5, hr6, hc16d, hr17, hc18d, hi21', hx53, hi52', hw54, hc57d]
                          repeat' ((with_reducible refine and_bar ?_ ?_); kernel_rfl)
                          refine hZ _ (by kernel_rfl) ?_
                          repeat (with_reducible first | refine Pop.pop ?_ | refine ap_nil_i ?_ | refine ap_lp_i ?_ | refine ap_bl_next (by decide) ?_)
                          refine hJ56 _ true ?_ h
                          refine weak_roots ?_ ?_
                          · (repeat' (first | exact weakX_nil | refine weakX_cons ?_ ?_)) <;> (first | rfl | simp only [go_sem, Nat.reduceLT, Nat.reduceEqDiff, Nat.reduceAdd, Nat.reduceBEq, Nat.reduceMul, Nat.reduceSub, reduceIte, Nat.reduceLeDiff, reduceCtorEq, Int.reduceNeg, Int.reduceToNat, Int.reduceEq, Int.reduceNe, Int.reduceLT, Int.reduceLE, Bool.or_self, List.length_set, Int.natCast_zero, Int.cast_ofNat_Int, hr1, hc2, hc5, hr6, hc16d, hr17, hc18d, hi21', hx53, hi52', hw54, hc57d])
                          · (repeat' (first | exact weakR_nil | refine weakR_cons ?_ ?_ ?_)) <;> (first | rfl | simp only [go_sem, Nat.reduceLT, Nat.reduceEqDiff, Nat.reduceAdd, Nat.reduceBEq, Nat.reduceMul, Nat.reduceSub, reduceIte, Nat.reduceLeDiff, reduceCtorEq, Int.reduceNeg, Int.reduceToNat, Int.reduceEq, Int.reduceNe, Int.reduceLT, Int.reduceLE, Bool.or_self, List.length_set, Int.natCast_zero, Int.cast_ofNat_Int, hr1, hc2, hc5, hr6, hc16d, hr17, hc18d, hi21', hx53, hi52', hw54, hc57d])
                        · have hc57d := decide_eq_false hc57
                          first | rw [if_neg hc57] at h | rw [if_neg (ne_true_of_eq_false hc57d)] at h | simp only [hc57d, Bool.not_true, Bool.not_false, Bool.false_eq_true, if_true, if_false] at h
                          try rw [gx_nat hx53] at h
                          obtain ⟨x79, hb58, hx59, h⟩ := gx_some h
                          try simp only [Int.toNat_natCast, Int.reduceToNat, Int.toNat_zero] at hx59
                          try simp only [Int.ofNat_lt, Int.natCast_nonneg, true_and] at hb58
                          simp (config := { maxSteps := 4000000 }) only [go_sem, Nat.reduceLT, Nat.reduceEqDiff, Nat.reduceAdd, Nat.reduceBEq, Nat.reduceMul, Nat.reduceSub, reduceIte, Nat.reduceLeDiff, reduceCtorEq, Int.reduceNeg, Int.reduceToNat, Int.reduceEq, Int.reduceNe, Int.reduceLT, Int.reduceLE, hr1, hc2, hc5, hr6, hc16d, hr17, hc18d, hi21', hx53, hi52', hw54, hc57d, hb58, hx59]
                          repeat' ((with_reducible refine and_bar ?_ ?_); kernel_rfl)
                          refine hZ _ (by kernel_rfl) ?_
                          repeat (with_reducible first | refine Pop.pop ?_ | refine ap_nil_i ?_ | refine ap_lp_i ?_ | refine ap_bl_next (by decide) ?_)
                          refine hJ56 _ (!decide (x73 = x79)) ?_ h
                          refine weak_roots ?_ ?_
                          · (repeat' (first | exact weakX_nil | refine weakX_cons ?_ ?_)) <;> (first | rfl | simp only [go_sem, Nat.reduceLT, Nat.reduceEqDiff, Nat.reduceAdd, Nat.reduceBEq, Nat.reduceMul, Nat.reduceSub, reduceIte, Nat.reduceLeDiff, reduceCtorEq, Int.reduceNeg, Int.reduceToNat, Int.reduceEq, Int.reduceNe, Int.reduceLT, Int.reduceLE, Bool.or_self, List.length_set, Int.natCast_zero, Int.cast_ofNat_Int, hr1, hc2, hc5, hr6, hc16d, hr17, hc18d, hi21', hx53, hi52', hw54, hc57d, hb58, hx59])
                          · (repeat' (first | exact weakR_nil | refine weakR_cons ?_ ?_ ?_)) <;> (first | rfl | simp only [go_sem, Nat.reduceLT, Nat.reduceEqDiff, Nat.reduceAdd, Nat.reduceBEq, Nat.reduceMul, Nat.reduceSub, reduceIte, Nat.reduceLeDiff, reduceCtorEq, Int.reduceNeg, Int.reduceToNat, Int.reduceEq, Int.reduceNe, Int.reduceLT, Int.reduceLE, Bool.or_self, List.length_set, Int.natCast_zero, Int.cast_ofNat_Int, hr1, hc2, hc5, hr6, hc16d, hr17, hc18d, hi21', hx53, hi52', hw54, hc57d, hb58, hx59])
                      · intro c78 h
                        unfold law30_StreamsOnce_J3 at h
                        refine Wk_cond_bool rfl (fun hc60 => ?_) (fun hc60 => ?_)
                        · first | rw [if_pos hc60] at h | simp only [hc60, hc2, hc5, Bool.or_false, Bool.or_true, Bool.false_or, Bool.true_or, Bool.and_true, Bool.true_and, Bool.and_false, Bool.false_and, Bool.not_true, Bool.not_false, Bool.false_eq_true, if_true, if_false] at h
                          refine Wk_seq ?_
                          refine Wk_regionZ fun Z hZ => ?_
                          simp (config := { maxSteps := 4000000 }) only [go_sem, Nat.reduceLT, Nat.reduceEqDiff, Nat.reduceAdd, Nat.reduceBEq, Nat.reduceMul, Nat.reduceSub, reduceIte, Nat.reduceLeDiff, reduceCtorEq, Int.reduceNeg, Int.reduceToNat, Int.reduceEq, Int.reduceNe, Int.reduceLT, Int.reduceLE, hr1, hc2, hc5, hr6, hc16d, hr17, hc18d, hi21', hx53, hi52', hw54, hc60]
                          refine hZ _ ?_
                          repeat (with_reducible first | refine Pop.pop ?_ | refine ap_nil_i ?_ | refine ap_lp_i ?_ | refine ap_bl_next (by decide) ?_)
                          refine Wk_ret ?_
                          repeat (with_reducible first | refine Pop.pop ?_ | refine ap_nil_i ?_ | refine ap_lp_i ?_ | refine ap_bl_next (by decide) ?_)
                          simp (config := { maxSteps := 4000000 }) only [go_sem, Nat.reduceLT, Nat.reduceEqDiff, Nat.reduceAdd, Nat.reduceBEq, Nat.reduceMul, Nat.reduceSub, reduceIte, Nat.reduceLeDiff, reduceCtorEq, Int.reduceNeg, Int.reduceToNat, Int.reduceEq, Int.reduceNe, Int.reduceLT, Int.reduceLE, hr1, hc2, hc5, hr6, hc16d, hr17, hc18d, hi21', hx53, hi52', hw54, hc60, FinW_ret, List.length_set, List.take_length]
                          obtain rfl := Option.some.inj h
                          exact ⟨_, rfl, (by exact ROk.refl _), (by repeat' (first | exact PureC.val _ | refine PureC.tup ?_ | refine PureC.agg ?_ | exact pure_nil | refine pure_cons ?_ ?_))⟩
                        · first | rw [if_neg (ne_true_of_eq_false hc60)] at h | simp only [hc60, hc2, hc5, Bool.or_false, Bool.or_true, Bool.false_or, Bool.true_or, Bool.and_true, Bool.true_and, Bool.and_false, Bool.false_and, Bool.not_true, Bool.not_false, Bool.false_eq_true, if_true, if_false] at h
                          refine Wk_skip ?_
                          repeat (with_reducible first | refine Pop.pop ?_ | refine ap_nil_i ?_ | refine ap_lp_i ?_ | refine ap_bl_next (by decide) ?_)
                          refine Wk_regionZ fun Z hZ => ?_
                          simp (config := { maxSteps := 4000000 }) only [go_sem, Nat.reduceLT, Nat.reduceEqDiff, Nat.reduceAdd, Nat.reduceBEq, Nat.reduceMul, Nat.reduceSub, reduceIte, Nat.reduceLeDiff, reduceCtorEq, Int.reduceNeg, Int.reduceToNat, Int.reduceEq, Int.reduceNe, Int.reduceLT, Int.reduceLE, hr1, hc2, hc5, hr6, hc16d, hr17, hc18d, hi21', hx53, hi52', hw54, hc60]
                          refine hZ _ ?_
                          repeat (with_reducible first | refine Pop.pop ?_ | refine ap_nil_i ?_ | refine ap_lp_i ?_ | refine ap_bl_next (by decide) ?_)
                          first | refine ⟨(), ?_, h⟩ | refine ⟨hi52', (), ?_, h⟩
                          refine weak_roots ?_ ?_
                          · (repeat' (first | exact weakX_nil | refine weakX_cons ?_ ?_)) <;> (first | rfl | simp only [go_sem, Nat.reduceLT, Nat.reduceEqDiff, Nat.reduceAdd, Nat.reduceBEq, Nat.reduceMul, Nat.reduceSub, reduceIte, Nat.reduceLeDiff, reduceCtorEq, Int.reduceNeg, Int.reduceToNat, Int.reduceEq, Int.reduceNe, Int.reduceLT, Int.reduceLE, Bool.or_self, List.length_set, Int.natCast_zero, Int.cast_ofNat_Int, hr1, hc2, hc5, hr6, hc16d, hr17, hc18d, hi21', hx53, hi52', hw54, hc60])
                          · (repeat' (first | exact weakR_nil | refine weakR_cons ?_ ?_ ?_)) <;> (first | rfl | simp only [go_sem, Nat.reduceLT, Nat.reduceEqDiff, Nat.reduceAdd, Nat.reduceBEq, Nat.reduceMul, Nat.reduceSub, reduceIte, Nat.reduceLeDiff, reduceCtorEq, Int.reduceNeg, Int.reduceToNat, Int.reduceEq, Int.reduceNe, Int.reduceLT, Int.reduceLE, Bool.or_self, List.length_set, Int.natCast_zero, Int.cast_ofNat_Int, hr1, hc2, hc5, hr6, hc16d, hr17, hc18d, hi21', hx53, hi52', hw54, hc60])
                    · rw [hd55] at h
                      simp only [law30_StreamsOnce_L3] at h
                      refine Wk_seq ?_
                      refine Wk_seq ?_
                      refine Wk_regionZ fun Z hZ => ?_
                      simp (config := { maxSteps := 4000000 }) only [go_sem, Nat.reduceLT, Nat.reduceEqDiff, Nat.reduceAdd, Nat.reduceBEq, Nat.reduceMul, Nat.reduceSub, reduceIte, Nat.reduceLeDiff, reduceCtorEq, Int.reduceNeg, Int.reduceToNat, Int.reduceEq, Int.reduceNe, Int.reduceLT, Int.reduceLE, hr1, hc2, hc5, hr6, hc16d, hr17, hc18d, hi21', hi52']
                      refine hZ _ ?_
                      repeat (with_reducible first | refine Pop.pop ?_ | refine ap_nil_i ?_ | refine ap_lp_i ?_ | refine ap_bl_next (by decide) ?_)
                      try simp only [Int.ofNat_lt, hi21', hi52', if_true, if_false] at h
                      refine Wk_cond_f rfl ?_
                      refine Wk_exit ?_
                      repeat (with_reducible first | refine Pop.pop ?_ | refine ap_nil_i ?_ | refine ap_lp_i ?_ | refine ap_bl_next (by decide) ?_)
                      unfold law30_StreamsOnce_J4 at h
                      refine Wk_seq ?_
                      refine Wk_regionZ fun Z hZ => ?_
                      simp (config := { maxSteps := 4000000 }) only [go_sem, Nat.reduceLT, Nat.reduceEqDiff, Nat.reduceAdd, Nat.reduceBEq, Nat.reduceMul, Nat.reduceSub, reduceIte, Nat.reduceLeDiff, reduceCtorEq, Int.reduceNeg, Int.reduceToNat, Int.reduceEq, Int.reduceNe, Int.reduceLT, Int.reduceLE, hr1, hc2, hc5, hr6, hc16d, hr17, hc18d, hi21', hi52']
                      refine hZ _ ?_
                      repeat (with_reducible first | refine Pop.pop ?_ | refine ap_nil_i ?_ | refine ap_lp_i ?_ | refine ap_bl_next (by decide) ?_)
                      refine Wk_seq ?_
                      refine Wk_seq ?_
                      obtain ⟨r80, hr61, h⟩ := Option.bind_eq_some_iff.1 h
                      refine Wk_regionZ fun Z hZ => ?_
                      simp (config := { maxSteps := 4000000 }) only [go_sem, Nat.reduceLT, Nat.reduceEqDiff, Nat.reduceAdd, Nat.reduceBEq, Nat.reduceMul, Nat.reduceSub, reduceIte, Nat.reduceLeDiff, reduceCtorEq, Int.reduceNeg, Int.reduceToNat, Int.reduceEq, Int.reduceNe, Int.reduceLT, Int.reduceLE, hr1, hc2, hc5, hr6, hc16d, hr17, hc18d, hi21', hi52', hr61]
                      refine hZ _ ?_
                      repeat (with_reducible first | refine Pop.pop ?_ | refine ap_nil_i ?_ | refine ap_lp_i ?_ | refine ap_bl_next (by decide) ?_)
                      refine Wk_block ?_
                      refine Wk_real fun hreal63 => ?_
                      have hl62 := hreal63.lenT 211 (by decide) (by simp only [go_sem, Nat.reduceLT, Nat.reduceEqDiff, Nat.reduceAdd, Nat.reduceBEq, Nat.reduceMul, Nat.reduceSub, reduceIte, Nat.reduceLeDiff, reduceCtorEq, Int.reduceNeg, Int.reduceToNat, Int.reduceEq, Int.reduceNe, Int.reduceLT, Int.reduceLE, Bool.or_self, List.length_set, Int.natCast_zero, Int.cast_ofNat_Int, hr1, hc2, hc5, hr6, hc16d, hr17, hc18d, hi21', hi52', hr61]; rfl)
                      rw [List.length_map] at hl62
                      refine Wk_range (fun (v82 : Nat) (b : Bool) => ⟨tab 244 (updT (updT (updT (updT (updT (updT (updT deadT 8 (.pref 8 [] 0 0)) 9 (.pal 160 [] 0 l35.length none)) 10 (.pal 134 [] 0 l36.length none)) 26 (.val (.bool b))) 211 (.sl false none 5 none (r80.map Delivery.row))) 212 (.val (.int .i64 ((r80.length : Nat) : Int)))) 213 (.val (.int .i64 ((v82 : Nat) : Int)))), (upd (upd (upd RZ 8 (.sl true none 2 (some 1) [[.val (.string (⟨#[90]⟩)), .val (.string (⟨#[122]⟩))]])) 134 (.sl true none 1 none (l36.map (rowI .i64)))) 160 (.sl true none 1 none (l35.map (rowI .i64))))⟩) false h ?_ ?_
                      · refine weak_roots ?_ ?_
                        · (repeat' (first | exact weakX_nil | refine weakX_cons ?_ ?_)) <;> (first | rfl | simp only [go_sem, Nat.reduceLT, Nat.reduceEqDiff, Nat.reduceAdd, Nat.reduceBEq, Nat.reduceMul, Nat.reduceSub, reduceIte, Nat.reduceLeDiff, reduceCtorEq, Int.reduceNeg, Int.reduceToNat, Int.reduceEq, Int.reduceNe, Int.reduceLT, Int.reduceLE, Bool.or_self, List.length_set, Int.natCast_zero, Int.cast_ofNat_Int, hr1, hc2, hc5, hr6, hc16d, hr17, hc18d, hi21', hi52', hr61])
                        · (repeat' (first | exact weakR_nil | refine weakR_cons ?_ ?_ ?_)) <;> (first | rfl | simp only [go_sem, Nat.reduceLT, Nat.reduceEqDiff, Nat.reduceAdd, Nat.reduceBEq, Nat.reduceMul, Nat.reduceSub, reduceIte, Nat.reduceLeDiff, reduceCtorEq, Int.reduceNeg, Int.reduceToNat, Int.reduceEq, Int.reduceNe, Int.reduceLT, Int.reduceLE, Bool.or_self, List.length_set, Int.natCast_zero, Int.cast_ofNat_Int, hr1, hc2, hc5, hr6, hc16d, hr17, hc18d, hi21', hi52', hr61])
                      · rintro v82 c81 hi64 h -
                        rcases drop_cases r80 v82 hi64 with ⟨x85, hi64', hx65, hd67⟩ | ⟨hi64', _, hd67⟩
                        · rw [hd67] at h
                          simp only [law30_StreamsOnce_L4] at h
                          have hw66 := wrap_succ hi64' hl62
                          refine Wk_seq ?_
                          refine Wk_regionZ fun Z hZ => ?_
                          simp (config := { maxSteps := 4000000 }) only [go_sem, Nat.reduceLT, Nat.reduceEqDiff, Nat.reduceAdd, Nat.reduceBEq, Nat.reduceMul, Nat.reduceSub, reduceIte, Nat.reduceLeDiff, reduceCtorEq, Int.reduceNeg, Int.reduceToNat, Int.reduceEq, Int.reduceNe, Int.reduceLT, Int.reduceLE, hr1, hc2, hc5, hr6, hc16d, hr17, hc18d, hi21', hi52', hr61, hx65, hi64', hw66]
                          refine hZ _ ?_
                          repeat (with_reducible first | refine Pop.pop ?_ | refine ap_nil_i ?_ | refine ap_lp_i ?_ | refine ap_bl_next (by decide) ?_)
                          refine Wk_seq ?_
                          try simp only [Int.ofNat_lt, hi21', hi52', hi64', if_true, if_false] at h
                          refine Wk_cond_t rfl ?_
                          refine Wk_skip ?_
                          repeat (with_reducible first | refine Pop.pop ?_ | refine ap_nil_i ?_ | refine ap_lp_i ?_ | refine ap_bl_next (by decide) ?_)
                          refine Wk_seq ?_
                          refine Wk_block ?_
                          refine Wk_seq ?_
                          try rw [gx_nat hx65] at h
                          refine Wk_regionZ fun Z hZ => ?_
                          simp (config := { maxSteps := 4000000 }) only [go_sem, Nat.reduceLT, Nat.reduceEqDiff, Nat.reduceAdd, Nat.reduceBEq, Nat.reduceMul, Nat.reduceSub, reduceIte, Nat.reduceLeDiff, reduceCtorEq, Int.reduceNeg, Int.reduceToNat, Int.reduceEq, Int.reduceNe, Int.reduceLT, Int.reduceLE, hr1, hc2, hc5, hr6, hc16d, hr17, hc18d, hi21', hi52', hr61, hx65, hi64', hw66]
                          refine hZ _ ?_
                          repeat (with_reducible first | refine Pop.pop ?_ | refine ap_nil_i ?_ | refine ap_lp_i ?_ | refine ap_bl_next (by decide) ?_)
                          refine Wk_seq ?_
                          refine Wk_regionZ fun Z hZ => ?_
                          simp (config := { maxSteps := 4000000 }) only [go_sem, Nat.reduceLT, Nat.reduceEqDiff, Nat.reduceAdd, Nat.reduceBEq, Nat.reduceMul, Nat.reduceSub, reduceIte, Nat.reduceLeDiff, reduceCtorEq, Int.reduceNeg, Int.reduceToNat, Int.reduceEq, Int.reduceNe, Int.reduceLT, Int.reduceLE, hr1, hc2, hc5, hr6, hc16d, hr17, hc18d, hi21', hi52', hr61, hx65, hi64', hw66]
                          refine hZ _ ?_
                          repeat (with_reducible first | refine Pop.pop ?_ | refine ap_nil_i ?_ | refine ap_lp_i ?_ | refine ap_bl_next (by decide) ?_)
                          refine Wk_cond_bool rfl (fun hc68 => ?_) (fun hc68 => ?_)
                          · first | rw [if_pos hc68] at h | simp only [hc68, hc2, hc5, Bool.or_false, Bool.or_true, Bool.false_or, Bool.true_or, Bool.and_true, Bool.true_and, Bool.and_false, Bool.false_and, Bool.not_true, Bool.not_false, Bool.false_eq_true, if_true, if_false] at h
                            refine Wk_regionD fun Z hZ => ?_
                            simp (config := { maxSteps := 4000000 }) only [go_sem, Nat.reduceLT, Nat.reduceEqDiff, Nat.reduceAdd, Nat.reduceBEq, Nat.reduceMul, Nat.reduceSub, reduceIte, Nat.reduceLeDiff, reduceCtorEq, Int.reduceNeg, Int.reduceToNat, Int.reduceEq, Int.reduceNe, Int.reduceLT, Int.reduceLE, hr1, hc2, hc5, hr6, hc16d, hr17, hc18d, hi21', hi52', hr61, hx65, hi64', hw66, hc68]
                            repeat' ((with_reducible refine and_bar ?_ ?_); kernel_rfl)
                            refine RX_guard_dec rfl (fun hc69 => ?_) (fun hc69 => ?_)
                            · have hc69d := decide_eq_true hc69
                              first | rw [if_pos hc69] at h | rw [if_pos hc69d] at h | simp only [hc69d, Bool.not_true, Bool.not_false, Bool.false_eq_true, if_true, if_false] at h
                              obtain ⟨x81, hb70, hx71, h⟩ := gx_some h
                              try simp only [Int.toNat_natCast, Int.reduceToNat, Int.toNat_zero] at hx71
                              try simp only [Int.ofNat_lt, Int.natCast_nonneg, true_and] at hb70
                              simp (config := { maxSteps := 4000000 }) only [go_sem, Nat.reduceLT, Nat.reduceEqDiff, Nat.reduceAdd, Nat.reduceBEq, Nat.reduceMul, Nat.reduceSub, reduceIte, Nat.reduceLeDiff, reduceCtorEq, Int.reduceNeg, Int.reduceToNat, Int.reduceEq, Int.reduceNe, Int.reduceLT, Int.reduceLE, hr1, hc2, hc5, hr6, hc16d, hr17, hc18d, hi21', hi52', hr61, hx65, hi64', hw66, hc68, hc69d, hb70, hx71]
                              repeat' ((with_reducible refine and_bar ?_ ?_); kernel_rfl)
                              refine hZ _ (by kernel_rfl) ?_
                              repeat (with_reducible first | refine Pop.pop ?_ | refine ap_nil_i ?_ | refine ap_lp_i ?_ | refine ap_bl_next (by decide) ?_)
                              refine Wk_regionZ fun Z hZ => ?_
                              simp (config := { maxSteps := 4000000 }) only [go_sem, Nat.reduceLT, Nat.reduceEqDiff, Nat.reduceAdd, Nat.reduceBEq, Nat.reduceMul, Nat.reduceSub, reduceIte, Nat.reduceLeDiff, reduceCtorEq, Int.reduceNeg, Int.reduceToNat, Int.reduceEq, Int.reduceNe, Int.reduceLT, Int.reduceLE, hr1, hc2, hc5, hr6, hc16d, hr17, hc18d, hi21', hi52', hr61, hx65, hi64', hw66, hc68, hc69d, hb70, hx71]
                              refine hZ _ ?_
                              repeat (with_reducible first | refine Pop.pop ?_ | refine ap_nil_i ?_ | refine ap_lp_i ?_ | refine ap_bl_next (by decide) ?_)
                              first | refine ⟨(decide (x85.Value = x81)), ?_, h⟩ | refine ⟨hi64', (decide (x85.Value = x81)), ?_, h⟩
                              refine weak_roots ?_ ?_
                              · (repeat' (first | exact weakX_nil | refine weakX_cons ?_ ?_)) <;> (first | rfl | simp only [go_sem, Nat.reduceLT, Nat.reduceEqDiff, Nat.reduceAdd, Nat.reduceBEq, Nat.reduceMul, Nat.reduceSub, reduceIte, Nat.reduceLeDiff, reduceCtorEq, Int.reduceNeg, Int.reduceToNat, Int.reduceEq, Int.reduceNe, Int.reduceLT, Int.reduceLE, Bool.or_self, List.length_set, Int.natCast_zero, Int.cast_ofNat_Int, hr1, hc2, hc5, hr6, hc16d, hr17, hc18d, hi21', hi52', hr61, hx65, hi64', hw66, hc68, hc69d, hb70, hx71])
                              · (repeat' (first | exact weakR_nil | refine weakR_cons ?_ ?_ ?_)) <;> (first | rfl | simp only [go_sem, Nat.reduceLT, Nat.reduceEqDiff, Nat.reduceAdd, Nat.reduceBEq, Nat.reduceMul, Nat.reduceSub, reduceIte, Nat.reduceLeDiff, reduceCtorEq, Int.reduceNeg, Int.reduceToNat, Int.reduceEq, Int.reduceNe, Int.reduceLT, Int.reduceLE, Bool.or_self, List.length_set, Int.natCast_zero, Int.cast_ofNat_Int, hr1, hc2, hc5, hr6, hc16d, hr17, hc18d, hi21', hi52', hr61, hx65, hi64', hw66, hc68, hc69d, hb70, hx71])
                            · have hc69d := decide_eq_false hc69
                              first | rw [if_neg hc69] at h | rw [if_neg (ne_true_of_eq_false hc69d)] at h | simp only [hc69d, Bool.not_true, Bool.not_false, Bool.false_eq_true, if_true, if_false] at h
                              simp (config := { maxSteps := 4000000 }) only [go_sem, Nat.reduceLT, Nat.reduceEqDiff, Nat.reduceAdd, Nat.reduceBEq, Nat.reduceMul, Nat.reduceSub, reduceIte, Nat.reduceLeDiff, reduceCtorEq, Int.reduceNeg, Int.reduceToNat, Int.reduceEq, Int.reduceNe, Int.reduceLT, Int.reduceLE, hr1, hc2, hc5, hr6, hc16d, hr17, hc18d, hi21', hi52', hr61, hx65, hi64', hw66, hc68, hc69d]
                              repeat' ((with_reducible refine and_bar ?_ ?_); kernel_rfl)
                              refine hZ _ (by kernel_rfl) ?_
                              repeat (with_reducible first | refine Pop.pop ?_ | refine ap_nil_i ?_ | refine ap_lp_i ?_ | refine ap_bl_next (by decide) ?_)
                              refine Wk_regionZ fun Z hZ => ?_
                              simp (config := { maxSteps := 4000000 }) only [go_sem, Nat.reduceLT, Nat.reduceEqDiff, Nat.reduceAdd, Nat.reduceBEq, Nat.reduceMul, Nat.reduceSub, reduceIte, Nat.reduceLeDiff, reduceCtorEq, Int.reduceNeg, Int.reduceToNat, Int.reduceEq, Int.reduceNe, Int.reduceLT, Int.reduceLE, hr1, hc2, hc5, hr6, hc16d, hr17, hc18d, hi21', hi52', hr61, hx65, hi64', hw66, hc68, hc69d]
                              refine hZ _ ?_
                              repeat (with_reducible first | refine Pop.pop ?_ | refine ap_nil_i ?_ | refine ap_lp_i ?_ | refine ap_bl_next (by decide) ?_)
                              first | refine ⟨false, ?_, h⟩ | refine ⟨hi64', false, ?_, h⟩
                              refine weak_roots ?_ ?_
                              · (repeat' (first | exact weakX_nil | refine weakX_cons ?_ ?_)) <;> (first | rfl | simp only [go_sem, Nat.reduceLT, Nat.reduceEqDiff, Nat.reduceAdd, Nat.reduceBEq, Nat.reduceMul, Nat.reduceSub, reduceIte, Nat.reduceLeDiff, reduceCtorEq, Int.reduceNeg, Int.reduceToNat, Int.reduceEq, Int.reduceNe, Int.reduceLT, Int.reduceLE, Bool.or_self, List.length_set, Int.natCast_zero, Int.cast_ofNat_Int, hr1, hc2, hc5, hr6, hc16d, hr17, hc18d, hi21', hi52', hr61, hx65, hi64', hw66, hc68, hc69d])
                              · (repeat' (first | exact weakR_nil | refine weakR_cons ?_ ?_ ?_)) <;> (first | rfl | simp only [go_sem, Nat.reduceLT, Nat.reduceEqDiff, Nat.reduceAdd, Nat.reduceBEq, Nat.reduceMul, Nat.reduceSub, reduceIte, Nat.reduceLeDiff, reduceCtorEq, Int.reduceNeg, Int.reduceToNat, Int.reduceEq, Int.reduceNe, Int.reduceLT, Int.reduceLE, Bool.or_self, List.length_set, Int.natCast_zero, Int.cast_ofNat_Int, hr1, hc2, hc5, hr6, hc16d, hr17, hc18d, hi21', hi52', hr61, hx65, hi64', hw66, hc68, hc69d])
                          · first | rw [if_neg (ne_true_of_eq_false hc68)] at h | simp only [hc68, hc2, hc5, Bool.or_false, Bool.or_true, Bool.false_or, Bool.true_or, Bool.and_true, Bool.true_and, Bool.and_false, Bool.false_and, Bool.not_true, Bool.not_false, Bool.false_eq_true, if_true, if_false] at h
                            refine Wk_skip ?_
                            repeat (with_reducible first | refine Pop.pop ?_ | refine ap_nil_i ?_ | refine ap_lp_i ?_ | refine ap_bl_next (by decide) ?_)
                            refine Wk_regionZ fun Z hZ => ?_
                            simp (config := { maxSteps := 4000000 }) only [go_sem, Nat.reduceLT, Nat.reduceEqDiff, Nat.reduceAdd, Nat.reduceBEq, Nat.reduceMul, Nat.reduceSub, reduceIte, Nat.reduceLeDiff, reduceCtorEq, Int.reduceNeg, Int.reduceToNat, Int.reduceEq, Int.reduceNe, Int.reduceLT, Int.reduceLE, hr1, hc2, hc5, hr6, hc16d, hr17, hc18d, hi21', hi52', hr61, hx65, hi64', hw66, hc68]
                            refine hZ _ ?_
                            repeat (with_reducible first | refine Pop.pop ?_ | refine ap_nil_i ?_ | refine ap_lp_i ?_ | refine ap_bl_next (by decide) ?_)
                            first | refine ⟨c81, ?_, h⟩ | refine ⟨hi64', c81, ?_, h⟩
                            refine weak_roots ?_ ?_
                            · (repeat' (first | exact weakX_nil | refine weakX_cons ?_ ?_)) <;> (first | rfl | simp only [go_sem, Nat.reduceLT, Nat.reduceEqDiff, Nat.reduceAdd, Nat.reduceBEq, Nat.reduceMul, Nat.reduceSub, reduceIte, Nat.reduceLeDiff, reduceCtorEq, Int.reduceNeg, Int.reduceToNat, Int.reduceEq, Int.reduceNe, Int.reduceLT, Int.reduceLE, Bool.or_self, List.length_set, Int.natCast_zero, Int.cast_ofNat_Int, hr1, hc2, hc5, hr6, hc16d, hr17, hc18d, hi21', hi52', hr61, hx65, hi64', hw66, hc68])
                            · (repeat' (first | exact weakR_nil | refine weakR_cons ?_ ?_ ?_)) <;> (first | rfl | simp only [go_sem, Nat.reduceLT, Nat.reduceEqDiff, Nat.reduceAdd, Nat.reduceBEq, Nat.reduceMul, Nat.reduceSub, reduceIte, Nat.reduceLeDiff, reduceCtorEq, Int.reduceNeg, Int.reduceToNat, Int.reduceEq, Int.reduceNe, Int.reduceLT, Int.reduceLE, Bool.or_self, List.length_set, Int.natCast_zero, Int.cast_ofNat_Int, hr1, hc2, hc5, hr6, hc16d, hr17, hc18d, hi21', hi52', hr61, hx65, hi64', hw66, hc68])
                        · rw [hd67] at h
                          simp only [law30_StreamsOnce_L4] at h
                          refine Wk_seq ?_
                          refine Wk_regionZ fun Z hZ => ?_
                          simp (config := { maxSteps := 4000000 }) only [go_sem, Nat.reduceLT, Nat.reduceEqDiff, Nat.reduceAdd, Nat.reduceBEq, Nat.reduceMul, Nat.reduceSub, reduceIte, Nat.reduceLeDiff, reduceCtorEq, Int.reduceNeg, Int.reduceToNat, Int.reduceEq, Int.reduceNe, Int.reduceLT, Int.reduceLE, hr1, hc2, hc5, hr6, hc16d, hr17, hc18d, hi21', hi52', hr61, hi64']
                          refine hZ _ ?_
                          repeat (with_reducible first | refine Pop.pop ?_ | refine ap_nil_i ?_ | refine ap_lp_i ?_ | refine ap_bl_next (by decide) ?_)
                          refine Wk_seq ?_
                          try simp only [Int.ofNat_lt, hi21', hi52', hi64', if_true, if_false] at h
                          refine Wk_cond_f rfl ?_
                          refine Wk_exit ?_
                          repeat (with_reducible first | refine Pop.pop ?_ | refine ap_nil_i ?_ | refine ap_lp_i ?_ | refine ap_bl_next (by decide) ?_)
                          refine Wk_seq ?_
                          refine Wk_regionZ fun Z hZ => ?_
                          simp (config := { maxSteps := 4000000 }) only [go_sem, Nat.reduceLT, Nat.reduceEqDiff, Nat.reduceAdd, Nat.reduceBEq, Nat.reduceMul, Nat.reduceSub, reduceIte, Nat.reduceLeDiff, reduceCtorEq, Int.reduceNeg, Int.reduceToNat, Int.reduceEq, Int.reduceNe, Int.reduceLT, Int.reduceLE, hr1, hc2, hc5, hr6, hc16d, hr17, hc18d, hi21', hi52', hr61, hi64']
                          refine hZ _ ?_
                          repeat (with_reducible first | refine Pop.pop ?_ | refine ap_nil_i ?_ | refine ap_lp_i ?_ | refine ap_bl_next (by decide) ?_)
                          refine Wk_ret ?_
                          repeat (with_reducible first | refine Pop.pop ?_ | refine ap_nil_i ?_ | refine ap_lp_i ?_ | refine ap_bl_next (by decide) ?_)
                          simp (config := { maxSteps := 4000000 }) only [go_sem, Nat.reduceLT, Nat.reduceEqDiff, Nat.reduceAdd, Nat.reduceBEq, Nat.reduceMul, Nat.reduceSub, reduceIte, Nat.reduceLeDiff, reduceCtorEq, Int.reduceNeg, Int.reduceToNat, Int.reduceEq, Int.reduceNe, Int.reduceLT, Int.reduceLE, hr1, hc2, hc5, hr6, hc16d, hr17, hc18d, hi21', hi52', hr61, hi64', FinW_ret, List.length_set, List.take_length]
                          obtain rfl := Option.some.inj h
                          exact ⟨_, rfl, (by exact ROk.refl _), (by repeat' (first | exact PureC.val _ | refine PureC.tup ?_ | refine PureC.agg ?_ | exact pure_nil | refine pure_cons ?_ ?_))⟩
def fs_law30_StreamsOnce (N : Nat) : FnS := { own := [], pure := true, fn := fun cs => match cs with
  | [c0, c1] => ((decL 1 (dec1 (decI .i64))) c0).bind fun qc0 => ((decL 3 actorgridlaw30_Act.dec) c1).bind fun qc1 => (law30_StreamsOnce N qc0 qc1).map fun r => .val (.bool r)
  | _ => none }
theorem fs_law30_StreamsOnce_own (N : Nat) : (fs_law30_StreamsOnce N).own = [] := rfl
theorem fs_law30_StreamsOnce_pure (N : Nat) : (fs_law30_StreamsOnce N).pure = true := rfl
attribute [go_sem] fs_law30_StreamsOnce fs_law30_StreamsOnce_own fs_law30_StreamsOnce_pure
theorem fs_law30_StreamsOnce_ok (N : Nat) : FSOk Try.prog 4 (fs_law30_StreamsOnce N) := by
  refine ⟨fun cs r h => ?_, fun h => by cases h⟩
  simp only [fs_law30_StreamsOnce] at h
  split at h
  · simp only [Option.bind_eq_some_iff, Option.map_eq_some_iff] at h
    obtain ⟨q0, h0, q1, h1, r', hr, rfl⟩ := h
    exact ((w_law30_StreamsOnce N q0 q1 r' hr).args (LeL.cons (decL_le (decI1_le .i64) h0) (LeL.cons (decL_le actorgridlaw30_Act.dec_le h1) (LeL.nil))))
  · cases h

end Go.Proofs.Ytpkfhjbgnpdgcaa
end
