/- Each Go function computes its model: proofs laid by a program of ours. -/
import Derived.Test.YtpkfhjbgnpdgcaaB
section
set_option linter.unusedSimpArgs false
set_option linter.unusedVariables false
set_option maxRecDepth 100000
namespace Go.Proofs.Ytpkfhjbgnpdgcaa
open Go Go.Proofs Go.Abs
noncomputable def E_streams_validName (N : Nat) : Env := { T := tiOf Try.prog, G := fun d f => none, F := fun d => none }
theorem E_streams_validName_F (N : Nat) (d : Nat) : (E_streams_validName N).F d = none := rfl
theorem E_streams_validName_T (N : Nat) : (E_streams_validName N).T = tiOf Try.prog := rfl
theorem E_streams_validName_ok (N : Nat) : GOk Try.prog { T := tiOf Try.prog, G := (E_streams_validName N).G } := by
  intro d f fs hfs
  cases hfs
theorem fo_streams_validName : FunOk Try.prog 21 Try.f21 Try.f21.body.get! := ⟨Try.func21, rfl, by decide, by kernel_rfl⟩
attribute [go_sem] E_streams_validName_T E_streams_validName_F
set_option maxHeartbeats 4000000 in
theorem w_streams_validName (N : Nat) (a0 : ByteArray) (r : Bool) (h : streams_validName N a0 = some r) : Con Try.prog 21 [] true [.val (.string a0)] (.val (.bool r)) := by
  refine fun_ok3 (E := E_streams_validName N) (tiOf_ok Try.prog (E_streams_validName N).G) (E_streams_validName_ok N) mix fo_streams_validName (Nat.le_of_ble_eq_true rfl) ?_
  intro _
  rw [entry_tab (by simp)]
  rw [show entryF [] [.val (.string a0)] = (updT deadT 0 (.val (.string a0))) from by funext t; match t with | 0 => rfl | t + 1 => rfl]
  apply Wk_start
  simp only [Try.f21, Option.get!, R0_RZ]
  unfold streams_validName at h
  refine Wk_seq ?_
  refine Wk_regionZ fun Z hZ => ?_
  simp (config := { maxSteps := 4000000 }) only [go_sem, Nat.reduceLT, Nat.reduceEqDiff, Nat.reduceAdd, Nat.reduceBEq, Nat.reduceMul, Nat.reduceSub, reduceIte, Nat.reduceLeDiff, reduceCtorEq, Int.reduceNeg, Int.reduceToNat, Int.reduceEq, Int.reduceNe, Int.reduceLT, Int.reduceLE]
  refine hZ _ ?_
  repeat (with_reducible first | refine Pop.pop ?_ | refine ap_nil_i ?_ | refine ap_lp_i ?_ | refine ap_bl_next (by decide) ?_)
  refine Wk_seq ?_
  refine Wk_regionZ fun Z hZ => ?_
  simp (config := { maxSteps := 4000000 }) only [go_sem, Nat.reduceLT, Nat.reduceEqDiff, Nat.reduceAdd, Nat.reduceBEq, Nat.reduceMul, Nat.reduceSub, reduceIte, Nat.reduceLeDiff, reduceCtorEq, Int.reduceNeg, Int.reduceToNat, Int.reduceEq, Int.reduceNe, Int.reduceLT, Int.reduceLE]
  refine RX_guard_dec rfl (fun hc1 => ?_) (fun hc1 => ?_)
  · have hc1d := decide_eq_true hc1
    first | rw [if_pos hc1] at h | rw [if_pos hc1d] at h | simp only [hc1d, Bool.not_true, Bool.not_false, Bool.false_eq_true, if_true, if_false] at h
    simp (config := { maxSteps := 4000000 }) only [go_sem, Nat.reduceLT, Nat.reduceEqDiff, Nat.reduceAdd, Nat.reduceBEq, Nat.reduceMul, Nat.reduceSub, reduceIte, Nat.reduceLeDiff, reduceCtorEq, Int.reduceNeg, Int.reduceToNat, Int.reduceEq, Int.reduceNe, Int.reduceLT, Int.reduceLE, hc1d]
    refine hZ _ ?_
    repeat (with_reducible first | refine Pop.pop ?_ | refine ap_nil_i ?_ | refine ap_lp_i ?_ | refine ap_bl_next (by decide) ?_)
    refine Wk_ret ?_
    repeat (with_reducible first | refine Pop.pop ?_ | refine ap_nil_i ?_ | refine ap_lp_i ?_ | refine ap_bl_next (by decide) ?_)
    simp (config := { maxSteps := 4000000 }) only [go_sem, Nat.reduceLT, Nat.reduceEqDiff, Nat.reduceAdd, Nat.reduceBEq, Nat.reduceMul, Nat.reduceSub, reduceIte, Nat.reduceLeDiff, reduceCtorEq, Int.reduceNeg, Int.reduceToNat, Int.reduceEq, Int.reduceNe, Int.reduceLT, Int.reduceLE, hc1d, FinW_ret, List.length_set, List.take_length]
    obtain rfl := Option.some.inj h
    exact ⟨_, rfl, (by exact ROk.refl _), (by repeat' (first | exact PureC.val _ | refine PureC.tup ?_ | refine PureC.agg ?_ | exact pure_nil | refine pure_cons ?_ ?_))⟩
  · have hc1d := decide_eq_false hc1
    first | rw [if_neg hc1] at h | rw [if_neg (ne_true_of_eq_false hc1d)] at h | simp only [hc1d, Bool.not_true, Bool.not_false, Bool.false_eq_true, if_true, if_false] at h
    simp (config := { maxSteps := 4000000 }) only [go_sem, Nat.reduceLT, Nat.reduceEqDiff, Nat.reduceAdd, Nat.reduceBEq, Nat.reduceMul, Nat.reduceSub, reduceIte, Nat.reduceLeDiff, reduceCtorEq, Int.reduceNeg, Int.reduceToNat, Int.reduceEq, Int.reduceNe, Int.reduceLT, Int.reduceLE, hc1d]
    refine hZ _ ?_
    repeat (with_reducible first | refine Pop.pop ?_ | refine ap_nil_i ?_ | refine ap_lp_i ?_ | refine ap_bl_next (by decide) ?_)
    refine Wk_ret ?_
    repeat (with_reducible first | refine Pop.pop ?_ | refine ap_nil_i ?_ | refine ap_lp_i ?_ | refine ap_bl_next (by decide) ?_)
    simp (config := { maxSteps := 4000000 }) only [go_sem, Nat.reduceLT, Nat.reduceEqDiff, Nat.reduceAdd, Nat.reduceBEq, Nat.reduceMul, Nat.reduceSub, reduceIte, Nat.reduceLeDiff, reduceCtorEq, Int.reduceNeg, Int.reduceToNat, Int.reduceEq, Int.reduceNe, Int.reduceLT, Int.reduceLE, hc1d, FinW_ret, List.length_set, List.take_length]
    obtain rfl := Option.some.inj h
    exact ⟨_, rfl, (by exact ROk.refl _), (by repeat' (first | exact PureC.val _ | refine PureC.tup ?_ | refine PureC.agg ?_ | exact pure_nil | refine pure_cons ?_ ?_))⟩
def fs_streams_validName (N : Nat) : FnS := { own := [], pure := true, fn := fun cs => match cs with
  | [c0] => (decS c0).bind fun qc0 => (streams_validName N qc0).map fun r => .val (.bool r)
  | _ => none }
theorem fs_streams_validName_own (N : Nat) : (fs_streams_validName N).own = [] := rfl
theorem fs_streams_validName_pure (N : Nat) : (fs_streams_validName N).pure = true := rfl
attribute [go_sem] fs_streams_validName fs_streams_validName_own fs_streams_validName_pure
theorem fs_streams_validName_ok (N : Nat) : FSOk Try.prog 21 (fs_streams_validName N) := by
  refine ⟨fun cs r h => ?_, fun h => by cases h⟩
  simp only [fs_streams_validName] at h
  split at h
  · simp only [Option.bind_eq_some_iff, Option.map_eq_some_iff] at h
    obtain ⟨q0, h0, r', hr, rfl⟩ := h
    exact ((w_streams_validName N q0 r' hr).args (LeL.cons (decS_le h0) (LeL.nil)))
  · cases h

end Go.Proofs.Ytpkfhjbgnpdgcaa
end

section
set_option linter.unusedSimpArgs false
set_option linter.unusedVariables false
set_option maxRecDepth 100000
namespace Go.Proofs.Ytpkfhjbgnpdgcaa
open Go Go.Proofs Go.Abs
noncomputable def E_streams_New (N : Nat) : Env := { T := tiOf Try.prog, G := fun d f => if d = 5 ∧ f = 21 then some (fs_streams_validName N) else none, F := fun d => none }
theorem E_streams_New_F (N : Nat) (d : Nat) : (E_streams_New N).F d = none := rfl
theorem E_streams_New_T (N : Nat) : (E_streams_New N).T = tiOf Try.prog := rfl
theorem E_streams_New_G0 (N : Nat) : (E_streams_New N).G 5 21 = some (fs_streams_validName N) := rfl
theorem E_streams_New_ok (N : Nat) : GOk Try.prog { T := tiOf Try.prog, G := (E_streams_New N).G } := by
  intro d f fs hfs
  simp only [E_streams_New] at hfs
  by_cases hc : d = 5 ∧ f = 21
  · rw [if_pos hc] at hfs; obtain ⟨rfl, rfl⟩ := hc; obtain rfl := Option.some.inj hfs; exact fs_streams_validName_ok N
  rw [if_neg hc] at hfs
  cases hfs
theorem fo_streams_New : FunOk Try.prog 7 Try.f7 Try.f7.body.get! := ⟨Try.func7, rfl, by decide, by kernel_rfl⟩
attribute [go_sem] E_streams_New_T E_streams_New_F E_streams_New_G0
set_option maxHeartbeats 4000000 in
theorem w_streams_New (N : Nat) (a0 : ByteArray) (r : Topic × Int) (h : streams_New N a0 = some r) : Con Try.prog 7 [] true [.val (.string a0)] (.tup [.agg (Topic.row r.1), .val (.int .i64 r.2)]) := by
  refine fun_ok3 (E := E_streams_New N) (tiOf_ok Try.prog (E_streams_New N).G) (E_streams_New_ok N) mix fo_streams_New (Nat.le_of_ble_eq_true rfl) ?_
  intro _
  rw [entry_tab (by simp)]
  rw [show entryF [] [.val (.string a0)] = (updT deadT 0 (.val (.string a0))) from by funext t; match t with | 0 => rfl | t + 1 => rfl]
  apply Wk_start
  simp only [Try.f7, Option.get!, R0_RZ]
  unfold streams_New at h
  refine Wk_seq ?_
  refine Wk_regionZ fun Z hZ => ?_
  simp (config := { maxSteps := 4000000 }) only [go_sem, Nat.reduceLT, Nat.reduceEqDiff, Nat.reduceAdd, Nat.reduceBEq, Nat.reduceMul, Nat.reduceSub, reduceIte, Nat.reduceLeDiff, reduceCtorEq, Int.reduceNeg, Int.reduceToNat, Int.reduceEq, Int.reduceNe, Int.reduceLT, Int.reduceLE]
  refine hZ _ ?_
  repeat (with_reducible first | refine Pop.pop ?_ | refine ap_nil_i ?_ | refine ap_lp_i ?_ | refine ap_bl_next (by decide) ?_)
  refine Wk_seq ?_
  refine Wk_seq ?_
  obtain ⟨r1, hr1, h⟩ := Option.bind_eq_some_iff.1 h
  refine Wk_regionZ fun Z hZ => ?_
  simp (config := { maxSteps := 4000000 }) only [go_sem, Nat.reduceLT, Nat.reduceEqDiff, Nat.reduceAdd, Nat.reduceBEq, Nat.reduceMul, Nat.reduceSub, reduceIte, Nat.reduceLeDiff, reduceCtorEq, Int.reduceNeg, Int.reduceToNat, Int.reduceEq, Int.reduceNe, Int.reduceLT, Int.reduceLE, hr1]
  refine hZ _ ?_
  repeat (with_reducible first | refine Pop.pop ?_ | refine ap_nil_i ?_ | refine ap_lp_i ?_ | refine ap_bl_next (by decide) ?_)
  refine Wk_cond_nbool rfl (fun hc2 => ?_) (fun hc2 => ?_)
  · first | rw [if_neg (ne_true_of_eq_false hc2)] at h | simp only [hc2, Bool.or_false, Bool.or_true, Bool.false_or, Bool.true_or, Bool.and_true, Bool.true_and, Bool.and_false, Bool.false_and, Bool.not_true, Bool.not_false, Bool.false_eq_true, if_true, if_false] at h
    refine Wk_seq ?_
    refine Wk_regionZ fun Z hZ => ?_
    simp (config := { maxSteps := 4000000 }) only [go_sem, Nat.reduceLT, Nat.reduceEqDiff, Nat.reduceAdd, Nat.reduceBEq, Nat.reduceMul, Nat.reduceSub, reduceIte, Nat.reduceLeDiff, reduceCtorEq, Int.reduceNeg, Int.reduceToNat, Int.reduceEq, Int.reduceNe, Int.reduceLT, Int.reduceLE, hr1, hc2]
    refine hZ _ ?_
    repeat (with_reducible first | refine Pop.pop ?_ | refine ap_nil_i ?_ | refine ap_lp_i ?_ | refine ap_bl_next (by decide) ?_)
    refine Wk_ret ?_
    repeat (with_reducible first | refine Pop.pop ?_ | refine ap_nil_i ?_ | refine ap_lp_i ?_ | refine ap_bl_next (by decide) ?_)
    simp (config := { maxSteps := 4000000 }) only [go_sem, Nat.reduceLT, Nat.reduceEqDiff, Nat.reduceAdd, Nat.reduceBEq, Nat.reduceMul, Nat.reduceSub, reduceIte, Nat.reduceLeDiff, reduceCtorEq, Int.reduceNeg, Int.reduceToNat, Int.reduceEq, Int.reduceNe, Int.reduceLT, Int.reduceLE, hr1, hc2, FinW_ret, List.length_set, List.take_length]
    obtain rfl := Option.some.inj h
    exact ⟨_, rfl, (by repeat' (first | exact ROk.refl _ | exact ROk.nil _ | ((refine ROk.of _ ?_ ?_); (focus ((repeat' (first | exact Le.refl _ | exact LeL.nil | exact Le.nils | exact LeLL.refl _ | refine LeLL.mapAppend ?_ ?_ | refine LeLL.cons ?_ ?_ | refine Le.sl ?_ | refine Le.tup ?_ | refine Le.agg ?_ | refine LeL.cons ?_ ?_)); done)); (focus ((repeat' (first | exact NoOwn.val _ | exact NoOwn.sl _ _ _ _ | refine NoOwn.tup ?_ | refine NoOwn.agg ?_ | exact noOwn_nil | refine noOwn_cons ?_ ?_)); done))) | ((refine ROk.own ?_ ?_); (focus ((repeat' (first | exact Le.refl _ | exact LeL.nil | exact Le.nils | exact LeLL.refl _ | refine LeLL.mapAppend ?_ ?_ | refine LeLL.cons ?_ ?_ | refine Le.sl ?_ | refine Le.tup ?_ | refine Le.agg ?_ | refine LeL.cons ?_ ?_)); done)); (focus ((first | exact RowOk.noOwn (rowI_ok .i64) _ | exact RowOk.noOwn Sub.row_ok _); done))) | refine ROk.agg rfl ?_ | refine ROk.tup rfl ?_ | exact rok_nil | refine rok_cons ?_ ?_)), (by (repeat' (first | exact PureC.val _ | refine PureC.tup ?_ | refine PureC.agg ?_ | exact pure_nil | refine pure_cons ?_ ?_ | refine PureC.sl ?_ | exact pure_rows (pure_rowI .i64) _ | exact pure_rows Sub.row_pure _ |  exact pure_rows_nil | refine pure_rows_append ?_ ?_ | refine pure_rows_cons ?_ ?_)))⟩
  · first | rw [if_pos hc2] at h | simp only [hc2, Bool.or_false, Bool.or_true, Bool.false_or, Bool.true_or, Bool.and_true, Bool.true_and, Bool.and_false, Bool.false_and, Bool.not_true, Bool.not_false, Bool.false_eq_true, if_true, if_false] at h
    refine Wk_skip ?_
    repeat (with_reducible first | refine Pop.pop ?_ | refine ap_nil_i ?_ | refine ap_lp_i ?_ | refine ap_bl_next (by decide) ?_)
    refine Wk_seq ?_
    refine Wk_regionZ fun Z hZ => ?_
    simp (config := { maxSteps := 4000000 }) only [go_sem, Nat.reduceLT, Nat.reduceEqDiff, Nat.reduceAdd, Nat.reduceBEq, Nat.reduceMul, Nat.reduceSub, reduceIte, Nat.reduceLeDiff, reduceCtorEq, Int.reduceNeg, Int.reduceToNat, Int.reduceEq, Int.reduceNe, Int.reduceLT, Int.reduceLE, hr1, hc2]
    refine hZ _ ?_
    repeat (with_reducible first | refine Pop.pop ?_ | refine ap_nil_i ?_ | refine ap_lp_i ?_ | refine ap_bl_next (by decide) ?_)
    refine Wk_ret ?_
    repeat (with_reducible first | refine Pop.pop ?_ | refine ap_nil_i ?_ | refine ap_lp_i ?_ | refine ap_bl_next (by decide) ?_)
    simp (config := { maxSteps := 4000000 }) only [go_sem, Nat.reduceLT, Nat.reduceEqDiff, Nat.reduceAdd, Nat.reduceBEq, Nat.reduceMul, Nat.reduceSub, reduceIte, Nat.reduceLeDiff, reduceCtorEq, Int.reduceNeg, Int.reduceToNat, Int.reduceEq, Int.reduceNe, Int.reduceLT, Int.reduceLE, hr1, hc2, FinW_ret, List.length_set, List.take_length]
    obtain rfl := Option.some.inj h
    exact ⟨_, rfl, (by repeat' (first | exact ROk.refl _ | exact ROk.nil _ | ((refine ROk.of _ ?_ ?_); (focus ((repeat' (first | exact Le.refl _ | exact LeL.nil | exact Le.nils | exact LeLL.refl _ | refine LeLL.mapAppend ?_ ?_ | refine LeLL.cons ?_ ?_ | refine Le.sl ?_ | refine Le.tup ?_ | refine Le.agg ?_ | refine LeL.cons ?_ ?_)); done)); (focus ((repeat' (first | exact NoOwn.val _ | exact NoOwn.sl _ _ _ _ | refine NoOwn.tup ?_ | refine NoOwn.agg ?_ | exact noOwn_nil | refine noOwn_cons ?_ ?_)); done))) | ((refine ROk.own ?_ ?_); (focus ((repeat' (first | exact Le.refl _ | exact LeL.nil | exact Le.nils | exact LeLL.refl _ | refine LeLL.mapAppend ?_ ?_ | refine LeLL.cons ?_ ?_ | refine Le.sl ?_ | refine Le.tup ?_ | refine Le.agg ?_ | refine LeL.cons ?_ ?_)); done)); (focus ((first | exact RowOk.noOwn (rowI_ok .i64) _ | exact RowOk.noOwn Sub.row_ok _); done))) | refine ROk.agg rfl ?_ | refine ROk.tup rfl ?_ | exact rok_nil | refine rok_cons ?_ ?_)), (by (repeat' (first | exact PureC.val _ | refine PureC.tup ?_ | refine PureC.agg ?_ | exact pure_nil | refine pure_cons ?_ ?_ | refine PureC.sl ?_ | exact pure_rows (pure_rowI .i64) _ | exact pure_rows Sub.row_pure _ |  exact pure_rows_nil | refine pure_rows_append ?_ ?_ | refine pure_rows_cons ?_ ?_)))⟩
def fs_streams_New (N : Nat) : FnS := { own := [], pure := true, fn := fun cs => match cs with
  | [c0] => (decS c0).bind fun qc0 => (streams_New N qc0).map fun r => .tup [.agg (Topic.row r.1), .val (.int .i64 r.2)]
  | _ => none }
theorem fs_streams_New_own (N : Nat) : (fs_streams_New N).own = [] := rfl
theorem fs_streams_New_pure (N : Nat) : (fs_streams_New N).pure = true := rfl
attribute [go_sem] fs_streams_New fs_streams_New_own fs_streams_New_pure
theorem fs_streams_New_ok (N : Nat) : FSOk Try.prog 7 (fs_streams_New N) := by
  refine ⟨fun cs r h => ?_, fun h => by cases h⟩
  simp only [fs_streams_New] at h
  split at h
  · simp only [Option.bind_eq_some_iff, Option.map_eq_some_iff] at h
    obtain ⟨q0, h0, r', hr, rfl⟩ := h
    exact ((w_streams_New N q0 r' hr).args (LeL.cons (decS_le h0) (LeL.nil)))
  · cases h

end Go.Proofs.Ytpkfhjbgnpdgcaa
end

section
set_option linter.unusedSimpArgs false
set_option linter.unusedVariables false
set_option maxRecDepth 100000
namespace Go.Proofs.Ytpkfhjbgnpdgcaa
open Go Go.Proofs Go.Abs
noncomputable def E_streams_validKey (N : Nat) : Env := { T := tiOf Try.prog, G := fun d f => if d = 7 ∧ f = 21 then some (fs_streams_validName N) else if d = 10 ∧ f = 21 then some (fs_streams_validName N) else none, F := fun d => none }
theorem E_streams_validKey_F (N : Nat) (d : Nat) : (E_streams_validKey N).F d = none := rfl
theorem E_streams_validKey_T (N : Nat) : (E_streams_validKey N).T = tiOf Try.prog := rfl
theorem E_streams_validKey_G0 (N : Nat) : (E_streams_validKey N).G 7 21 = some (fs_streams_validName N) := rfl
theorem E_streams_validKey_G1 (N : Nat) : (E_streams_validKey N).G 10 21 = some (fs_streams_validName N) := rfl
theorem E_streams_validKey_ok (N : Nat) : GOk Try.prog { T := tiOf Try.prog, G := (E_streams_validKey N).G } := by
  intro d f fs hfs
  simp only [E_streams_validKey] at hfs
  by_cases hc : d = 7 ∧ f = 21
  · rw [if_pos hc] at hfs; obtain ⟨rfl, rfl⟩ := hc; obtain rfl := Option.some.inj hfs; exact fs_streams_validName_ok N
  rw [if_neg hc] at hfs
  by_cases hc : d = 10 ∧ f = 21
  · rw [if_pos hc] at hfs; obtain ⟨rfl, rfl⟩ := hc; obtain rfl := Option.some.inj hfs; exact fs_streams_validName_ok N
  rw [if_neg hc] at hfs
  cases hfs
theorem fo_streams_validKey : FunOk Try.prog 29 Try.f29 Try.f29.body.get! := ⟨Try.func29, rfl, by decide, by kernel_rfl⟩
attribute [go_sem] E_streams_validKey_T E_streams_validKey_F E_streams_validKey_G0 E_streams_validKey_G1
set_option maxHeartbeats 4000000 in
theorem w_streams_validKey (N : Nat) (a0 : Ref) (a1 : ByteArray) (r : Bool) (h : streams_validKey N a0 a1 = some r) : Con Try.prog 29 [] true [.agg [.val (.string a0.Type_), .val (.string a0.Key)], .val (.string a1)] (.val (.bool r)) := by
  refine fun_ok3 (E := E_streams_validKey N) (tiOf_ok Try.prog (E_streams_validKey N).G) (E_streams_validKey_ok N) mix fo_streams_validKey (Nat.le_of_ble_eq_true rfl) ?_
  intro _
  rw [entry_tab (by simp)]
  rw [show entryF [] [.agg [.val (.string a0.Type_), .val (.string a0.Key)], .val (.string a1)] = (updT (updT deadT 0 (.agg [.val (.string a0.Type_), .val (.string a0.Key)])) 1 (.val (.string a1))) from by funext t; match t with | 0 => rfl | 1 => rfl | t + 2 => rfl]
  apply Wk_start
  simp only [Try.f29, Option.get!, R0_RZ]
  unfold streams_validKey at h
  refine Wk_seq ?_
  refine Wk_regionZ fun Z hZ => ?_
  simp (config := { maxSteps := 4000000 }) only [go_sem, Nat.reduceLT, Nat.reduceEqDiff, Nat.reduceAdd, Nat.reduceBEq, Nat.reduceMul, Nat.reduceSub, reduceIte, Nat.reduceLeDiff, reduceCtorEq, Int.reduceNeg, Int.reduceToNat, Int.reduceEq, Int.reduceNe, Int.reduceLT, Int.reduceLE]
  refine hZ _ ?_
  repeat (with_reducible first | refine Pop.pop ?_ | refine ap_nil_i ?_ | refine ap_lp_i ?_ | refine ap_bl_next (by decide) ?_)
  refine Wk_seq ?_
  obtain ⟨r1, hr1, h⟩ := Option.bind_eq_some_iff.1 h
  refine Wk_regionZ fun Z hZ => ?_
  simp (config := { maxSteps := 4000000 }) only [go_sem, Nat.reduceLT, Nat.reduceEqDiff, Nat.reduceAdd, Nat.reduceBEq, Nat.reduceMul, Nat.reduceSub, reduceIte, Nat.reduceLeDiff, reduceCtorEq, Int.reduceNeg, Int.reduceToNat, Int.reduceEq, Int.reduceNe, Int.reduceLT, Int.reduceLE, hr1]
  refine RX_guard_bool rfl (fun hc2 => ?_) (fun hc2 => ?_)
  · first | rw [if_pos hc2] at h | simp only [hc2, Bool.or_false, Bool.or_true, Bool.false_or, Bool.true_or, Bool.and_true, Bool.true_and, Bool.and_false, Bool.false_and, Bool.not_true, Bool.not_false, Bool.false_eq_true, if_true, if_false] at h
    obtain ⟨r2, hr3, h⟩ := Option.bind_eq_some_iff.1 h
    simp (config := { maxSteps := 4000000 }) only [go_sem, Nat.reduceLT, Nat.reduceEqDiff, Nat.reduceAdd, Nat.reduceBEq, Nat.reduceMul, Nat.reduceSub, reduceIte, Nat.reduceLeDiff, reduceCtorEq, Int.reduceNeg, Int.reduceToNat, Int.reduceEq, Int.reduceNe, Int.reduceLT, Int.reduceLE, hr1, hc2, hr3]
    refine RX_guard_bool rfl (fun hc4 => ?_) (fun hc4 => ?_)
    · first | rw [if_pos hc4] at h | simp only [hc4, hc2, Bool.or_false, Bool.or_true, Bool.false_or, Bool.true_or, Bool.and_true, Bool.true_and, Bool.and_false, Bool.false_and, Bool.not_true, Bool.not_false, Bool.false_eq_true, if_true, if_false] at h
      simp (config := { maxSteps := 4000000 }) only [go_sem, Nat.reduceLT, Nat.reduceEqDiff, Nat.reduceAdd, Nat.reduceBEq, Nat.reduceMul, Nat.reduceSub, reduceIte, Nat.reduceLeDiff, reduceCtorEq, Int.reduceNeg, Int.reduceToNat, Int.reduceEq, Int.reduceNe, Int.reduceLT, Int.reduceLE, hr1, hc2, hr3, hc4]
      refine hZ _ ?_
      repeat (with_reducible first | refine Pop.pop ?_ | refine ap_nil_i ?_ | refine ap_lp_i ?_ | refine ap_bl_next (by decide) ?_)
      refine Wk_ret ?_
      repeat (with_reducible first | refine Pop.pop ?_ | refine ap_nil_i ?_ | refine ap_lp_i ?_ | refine ap_bl_next (by decide) ?_)
      simp (config := { maxSteps := 4000000 }) only [go_sem, Nat.reduceLT, Nat.reduceEqDiff, Nat.reduceAdd, Nat.reduceBEq, Nat.reduceMul, Nat.reduceSub, reduceIte, Nat.reduceLeDiff, reduceCtorEq, Int.reduceNeg, Int.reduceToNat, Int.reduceEq, Int.reduceNe, Int.reduceLT, Int.reduceLE, hr1, hc2, hr3, hc4, FinW_ret, List.length_set, List.take_length]
      obtain rfl := Option.some.inj h
      exact ⟨_, rfl, (by exact ROk.refl _), (by repeat' (first | exact PureC.val _ | refine PureC.tup ?_ | refine PureC.agg ?_ | exact pure_nil | refine pure_cons ?_ ?_))⟩
    · first | rw [if_neg (ne_true_of_eq_false hc4)] at h | simp only [hc4, hc2, Bool.or_false, Bool.or_true, Bool.false_or, Bool.true_or, Bool.and_true, Bool.true_and, Bool.and_false, Bool.false_and, Bool.not_true, Bool.not_false, Bool.false_eq_true, if_true, if_false] at h
      simp (config := { maxSteps := 4000000 }) only [go_sem, Nat.reduceLT, Nat.reduceEqDiff, Nat.reduceAdd, Nat.reduceBEq, Nat.reduceMul, Nat.reduceSub, reduceIte, Nat.reduceLeDiff, reduceCtorEq, Int.reduceNeg, Int.reduceToNat, Int.reduceEq, Int.reduceNe, Int.reduceLT, Int.reduceLE, hr1, hc2, hr3, hc4]
      refine hZ _ ?_
      repeat (with_reducible first | refine Pop.pop ?_ | refine ap_nil_i ?_ | refine ap_lp_i ?_ | refine ap_bl_next (by decide) ?_)
      refine Wk_ret ?_
      repeat (with_reducible first | refine Pop.pop ?_ | refine ap_nil_i ?_ | refine ap_lp_i ?_ | refine ap_bl_next (by decide) ?_)
      simp (config := { maxSteps := 4000000 }) only [go_sem, Nat.reduceLT, Nat.reduceEqDiff, Nat.reduceAdd, Nat.reduceBEq, Nat.reduceMul, Nat.reduceSub, reduceIte, Nat.reduceLeDiff, reduceCtorEq, Int.reduceNeg, Int.reduceToNat, Int.reduceEq, Int.reduceNe, Int.reduceLT, Int.reduceLE, hr1, hc2, hr3, hc4, FinW_ret, List.length_set, List.take_length]
      obtain rfl := Option.some.inj h
      exact ⟨_, rfl, (by exact ROk.refl _), (by repeat' (first | exact PureC.val _ | refine PureC.tup ?_ | refine PureC.agg ?_ | exact pure_nil | refine pure_cons ?_ ?_))⟩
  · first | rw [if_neg (ne_true_of_eq_false hc2)] at h | simp only [hc2, Bool.or_false, Bool.or_true, Bool.false_or, Bool.true_or, Bool.and_true, Bool.true_and, Bool.and_false, Bool.false_and, Bool.not_true, Bool.not_false, Bool.false_eq_true, if_true, if_false] at h
    simp (config := { maxSteps := 4000000 }) only [go_sem, Nat.reduceLT, Nat.reduceEqDiff, Nat.reduceAdd, Nat.reduceBEq, Nat.reduceMul, Nat.reduceSub, reduceIte, Nat.reduceLeDiff, reduceCtorEq, Int.reduceNeg, Int.reduceToNat, Int.reduceEq, Int.reduceNe, Int.reduceLT, Int.reduceLE, hr1, hc2]
    refine hZ _ ?_
    repeat (with_reducible first | refine Pop.pop ?_ | refine ap_nil_i ?_ | refine ap_lp_i ?_ | refine ap_bl_next (by decide) ?_)
    refine Wk_ret ?_
    repeat (with_reducible first | refine Pop.pop ?_ | refine ap_nil_i ?_ | refine ap_lp_i ?_ | refine ap_bl_next (by decide) ?_)
    simp (config := { maxSteps := 4000000 }) only [go_sem, Nat.reduceLT, Nat.reduceEqDiff, Nat.reduceAdd, Nat.reduceBEq, Nat.reduceMul, Nat.reduceSub, reduceIte, Nat.reduceLeDiff, reduceCtorEq, Int.reduceNeg, Int.reduceToNat, Int.reduceEq, Int.reduceNe, Int.reduceLT, Int.reduceLE, hr1, hc2, FinW_ret, List.length_set, List.take_length]
    obtain rfl := Option.some.inj h
    exact ⟨_, rfl, (by exact ROk.refl _), (by repeat' (first | exact PureC.val _ | refine PureC.tup ?_ | refine PureC.agg ?_ | exact pure_nil | refine pure_cons ?_ ?_))⟩
def fs_streams_validKey (N : Nat) : FnS := { own := [], pure := true, fn := fun cs => match cs with
  | [c0, c1] => (Ref.decA c0).bind fun qc0 => (decS c1).bind fun qc1 => (streams_validKey N qc0 qc1).map fun r => .val (.bool r)
  | _ => none }
theorem fs_streams_validKey_own (N : Nat) : (fs_streams_validKey N).own = [] := rfl
theorem fs_streams_validKey_pure (N : Nat) : (fs_streams_validKey N).pure = true := rfl
attribute [go_sem] fs_streams_validKey fs_streams_validKey_own fs_streams_validKey_pure
theorem fs_streams_validKey_ok (N : Nat) : FSOk Try.prog 29 (fs_streams_validKey N) := by
  refine ⟨fun cs r h => ?_, fun h => by cases h⟩
  simp only [fs_streams_validKey] at h
  split at h
  · simp only [Option.bind_eq_some_iff, Option.map_eq_some_iff] at h
    obtain ⟨q0, h0, q1, h1, r', hr, rfl⟩ := h
    exact ((w_streams_validKey N q0 q1 r' hr).args (LeL.cons (Ref.decA_le h0) (LeL.cons (decS_le h1) (LeL.nil))))
  · cases h

end Go.Proofs.Ytpkfhjbgnpdgcaa
end

section
set_option linter.unusedSimpArgs false
set_option linter.unusedVariables false
set_option maxRecDepth 100000
namespace Go.Proofs.Ytpkfhjbgnpdgcaa
open Go Go.Proofs Go.Abs
noncomputable def E_cmp_isNaN_string (N : Nat) : Env := { T := tiOf Try.prog, G := fun d f => none, F := fun d => none }
theorem E_cmp_isNaN_string_F (N : Nat) (d : Nat) : (E_cmp_isNaN_string N).F d = none := rfl
theorem E_cmp_isNaN_string_T (N : Nat) : (E_cmp_isNaN_string N).T = tiOf Try.prog := rfl
theorem E_cmp_isNaN_string_ok (N : Nat) : GOk Try.prog { T := tiOf Try.prog, G := (E_cmp_isNaN_string N).G } := by
  intro d f fs hfs
  cases hfs
theorem fo_cmp_isNaN_string : FunOk Try.prog 46 Try.f46 Try.f46.body.get! := ⟨Try.func46, rfl, by decide, by kernel_rfl⟩
attribute [go_sem] E_cmp_isNaN_string_T E_cmp_isNaN_string_F
set_option maxHeartbeats 4000000 in
theorem w_cmp_isNaN_string (N : Nat) (a0 : ByteArray) (r : Bool) (h : cmp_isNaN_string N a0 = some r) : Con Try.prog 46 [] true [.val (.string a0)] (.val (.bool r)) := by
  refine fun_ok3 (E := E_cmp_isNaN_string N) (tiOf_ok Try.prog (E_cmp_isNaN_string N).G) (E_cmp_isNaN_string_ok N) mix fo_cmp_isNaN_string (Nat.le_of_ble_eq_true rfl) ?_
  intro _
  rw [entry_tab (by simp)]
  rw [show entryF [] [.val (.string a0)] = (updT deadT 0 (.val (.string a0))) from by funext t; match t with | 0 => rfl | t + 1 => rfl]
  apply Wk_start
  simp only [Try.f46, Option.get!, R0_RZ]
  unfold cmp_isNaN_string at h
  refine Wk_seq ?_
  refine Wk_regionZ fun Z hZ => ?_
  simp (config := { maxSteps := 4000000 }) only [go_sem, Nat.reduceLT, Nat.reduceEqDiff, Nat.reduceAdd, Nat.reduceBEq, Nat.reduceMul, Nat.reduceSub, reduceIte, Nat.reduceLeDiff, reduceCtorEq, Int.reduceNeg, Int.reduceToNat, Int.reduceEq, Int.reduceNe, Int.reduceLT, Int.reduceLE]
  refine hZ _ ?_
  repeat (with_reducible first | refine Pop.pop ?_ | refine ap_nil_i ?_ | refine ap_lp_i ?_ | refine ap_bl_next (by decide) ?_)
  refine Wk_seq ?_
  refine Wk_regionZ fun Z hZ => ?_
  simp (config := { maxSteps := 4000000 }) only [go_sem, Nat.reduceLT, Nat.reduceEqDiff, Nat.reduceAdd, Nat.reduceBEq, Nat.reduceMul, Nat.reduceSub, reduceIte, Nat.reduceLeDiff, reduceCtorEq, Int.reduceNeg, Int.reduceToNat, Int.reduceEq, Int.reduceNe, Int.reduceLT, Int.reduceLE]
  refine hZ _ ?_
  repeat (with_reducible first | refine Pop.pop ?_ | refine ap_nil_i ?_ | refine ap_lp_i ?_ | refine ap_bl_next (by decide) ?_)
  refine Wk_ret ?_
  repeat (with_reducible first | refine Pop.pop ?_ | refine ap_nil_i ?_ | refine ap_lp_i ?_ | refine ap_bl_next (by decide) ?_)
  simp (config := { maxSteps := 4000000 }) only [go_sem, Nat.reduceLT, Nat.reduceEqDiff, Nat.reduceAdd, Nat.reduceBEq, Nat.reduceMul, Nat.reduceSub, reduceIte, Nat.reduceLeDiff, reduceCtorEq, Int.reduceNeg, Int.reduceToNat, Int.reduceEq, Int.reduceNe, Int.reduceLT, Int.reduceLE, FinW_ret, List.length_set, List.take_length]
  obtain rfl := Option.some.inj h
  exact ⟨_, rfl, (by exact ROk.refl _), (by repeat' (first | exact PureC.val _ | refine PureC.tup ?_ | refine PureC.agg ?_ | exact pure_nil | refine pure_cons ?_ ?_))⟩
def fs_cmp_isNaN_string (N : Nat) : FnS := { own := [], pure := true, fn := fun cs => match cs with
  | [c0] => (decS c0).bind fun qc0 => (cmp_isNaN_string N qc0).map fun r => .val (.bool r)
  | _ => none }
theorem fs_cmp_isNaN_string_own (N : Nat) : (fs_cmp_isNaN_string N).own = [] := rfl
theorem fs_cmp_isNaN_string_pure (N : Nat) : (fs_cmp_isNaN_string N).pure = true := rfl
attribute [go_sem] fs_cmp_isNaN_string fs_cmp_isNaN_string_own fs_cmp_isNaN_string_pure
theorem fs_cmp_isNaN_string_ok (N : Nat) : FSOk Try.prog 46 (fs_cmp_isNaN_string N) := by
  refine ⟨fun cs r h => ?_, fun h => by cases h⟩
  simp only [fs_cmp_isNaN_string] at h
  split at h
  · simp only [Option.bind_eq_some_iff, Option.map_eq_some_iff] at h
    obtain ⟨q0, h0, r', hr, rfl⟩ := h
    exact ((w_cmp_isNaN_string N q0 r' hr).args (LeL.cons (decS_le h0) (LeL.nil)))
  · cases h

end Go.Proofs.Ytpkfhjbgnpdgcaa
end

section
set_option linter.unusedSimpArgs false
set_option linter.unusedVariables false
set_option maxRecDepth 100000
namespace Go.Proofs.Ytpkfhjbgnpdgcaa
open Go Go.Proofs Go.Abs
noncomputable def E_cmp_Compare_string (N : Nat) : Env := { T := tiOf Try.prog, G := fun d f => if d = 8 ∧ f = 46 then some (fs_cmp_isNaN_string N) else if d = 10 ∧ f = 46 then some (fs_cmp_isNaN_string N) else none, F := fun d => none }
theorem E_cmp_Compare_string_F (N : Nat) (d : Nat) : (E_cmp_Compare_string N).F d = none := rfl
theorem E_cmp_Compare_string_T (N : Nat) : (E_cmp_Compare_string N).T = tiOf Try.prog := rfl
theorem E_cmp_Compare_string_G0 (N : Nat) : (E_cmp_Compare_string N).G 8 46 = some (fs_cmp_isNaN_string N) := rfl
theorem E_cmp_Compare_string_G1 (N : Nat) : (E_cmp_Compare_string N).G 10 46 = some (fs_cmp_isNaN_string N) := rfl
theorem E_cmp_Compare_string_ok (N : Nat) : GOk Try.prog { T := tiOf Try.prog, G := (E_cmp_Compare_string N).G } := by
  intro d f fs hfs
  simp only [E_cmp_Compare_string] at hfs
  by_cases hc : d = 8 ∧ f = 46
  · rw [if_pos hc] at hfs; obtain ⟨rfl, rfl⟩ := hc; obtain rfl := Option.some.inj hfs; exact fs_cmp_isNaN_string_ok N
  rw [if_neg hc] at hfs
  by_cases hc : d = 10 ∧ f = 46
  · rw [if_pos hc] at hfs; obtain ⟨rfl, rfl⟩ := hc; obtain rfl := Option.some.inj hfs; exact fs_cmp_isNaN_string_ok N
  rw [if_neg hc] at hfs
  cases hfs
theorem fo_cmp_Compare_string : FunOk Try.prog 43 Try.f43 Try.f43.body.get! := ⟨Try.func43, rfl, by decide, by kernel_rfl⟩
attribute [go_sem] E_cmp_Compare_string_T E_cmp_Compare_string_F E_cmp_Compare_string_G0 E_cmp_Compare_string_G1
set_option maxHeartbeats 4000000 in
theorem w_cmp_Compare_string (N : Nat) (a0 : ByteArray) (a1 : ByteArray) (r : Int) (h : cmp_Compare_string N a0 a1 = some r) : Con Try.prog 43 [] true [.val (.string a0), .val (.string a1)] (.val (.int .i64 r)) := by
  refine fun_ok3 (E := E_cmp_Compare_string N) (tiOf_ok Try.prog (E_cmp_Compare_string N).G) (E_cmp_Compare_string_ok N) mix fo_cmp_Compare_string (Nat.le_of_ble_eq_true rfl) ?_
  intro _
  rw [entry_tab (by simp)]
  rw [show entryF [] [.val (.string a0), .val (.string a1)] = (updT (updT deadT 0 (.val (.string a0))) 1 (.val (.string a1))) from by funext t; match t with | 0 => rfl | 1 => rfl | t + 2 => rfl]
  apply Wk_start
  simp only [Try.f43, Option.get!, R0_RZ]
  unfold cmp_Compare_string at h
  refine Wk_seq ?_
  refine Wk_regionZ fun Z hZ => ?_
  simp (config := { maxSteps := 4000000 }) only [go_sem, Nat.reduceLT, Nat.reduceEqDiff, Nat.reduceAdd, Nat.reduceBEq, Nat.reduceMul, Nat.reduceSub, reduceIte, Nat.reduceLeDiff, reduceCtorEq, Int.reduceNeg, Int.reduceToNat, Int.reduceEq, Int.reduceNe, Int.reduceLT, Int.reduceLE]
  refine hZ _ ?_
  repeat (with_reducible first | refine Pop.pop ?_ | refine ap_nil_i ?_ | refine ap_lp_i ?_ | refine ap_bl_next (by decide) ?_)
  refine Wk_seq ?_
  obtain ⟨r1, hr1, h⟩ := Option.bind_eq_some_iff.1 h
  refine Wk_regionZ fun Z hZ => ?_
  simp (config := { maxSteps := 4000000 }) only [go_sem, Nat.reduceLT, Nat.reduceEqDiff, Nat.reduceAdd, Nat.reduceBEq, Nat.reduceMul, Nat.reduceSub, reduceIte, Nat.reduceLeDiff, reduceCtorEq, Int.reduceNeg, Int.reduceToNat, Int.reduceEq, Int.reduceNe, Int.reduceLT, Int.reduceLE, hr1]
  refine hZ _ ?_
  repeat (with_reducible first | refine Pop.pop ?_ | refine ap_nil_i ?_ | refine ap_lp_i ?_ | refine ap_bl_next (by decide) ?_)
  refine Wk_seq ?_
  obtain ⟨r2, hr2, h⟩ := Option.bind_eq_some_iff.1 h
  refine Wk_regionZ fun Z hZ => ?_
  simp (config := { maxSteps := 4000000 }) only [go_sem, Nat.reduceLT, Nat.reduceEqDiff, Nat.reduceAdd, Nat.reduceBEq, Nat.reduceMul, Nat.reduceSub, reduceIte, Nat.reduceLeDiff, reduceCtorEq, Int.reduceNeg, Int.reduceToNat, Int.reduceEq, Int.reduceNe, Int.reduceLT, Int.reduceLE, hr1, hr2]
  refine hZ _ ?_
  repeat (with_reducible first | refine Pop.pop ?_ | refine ap_nil_i ?_ | refine ap_lp_i ?_ | refine ap_bl_next (by decide) ?_)
  refine Wk_seq ?_
  refine Wk_seq ?_
  refine Wk_regionZ fun Z hZ => ?_
  simp (config := { maxSteps := 4000000 }) only [go_sem, Nat.reduceLT, Nat.reduceEqDiff, Nat.reduceAdd, Nat.reduceBEq, Nat.reduceMul, Nat.reduceSub, reduceIte, Nat.reduceLeDiff, reduceCtorEq, Int.reduceNeg, Int.reduceToNat, Int.reduceEq, Int.reduceNe, Int.reduceLT, Int.reduceLE, hr1, hr2]
  refine hZ _ ?_
  repeat (with_reducible first | refine Pop.pop ?_ | refine ap_nil_i ?_ | refine ap_lp_i ?_ | refine ap_bl_next (by decide) ?_)
  refine Wk_cond_bool rfl (fun hc3 => ?_) (fun hc3 => ?_)
  · first | rw [if_pos hc3] at h | simp only [hc3, Bool.or_false, Bool.or_true, Bool.false_or, Bool.true_or, Bool.and_true, Bool.true_and, Bool.and_false, Bool.false_and, Bool.not_true, Bool.not_false, Bool.false_eq_true, if_true, if_false] at h
    refine Wk_seq ?_
    refine Wk_seq ?_
    refine Wk_regionZ fun Z hZ => ?_
    simp (config := { maxSteps := 4000000 }) only [go_sem, Nat.reduceLT, Nat.reduceEqDiff, Nat.reduceAdd, Nat.reduceBEq, Nat.reduceMul, Nat.reduceSub, reduceIte, Nat.reduceLeDiff, reduceCtorEq, Int.reduceNeg, Int.reduceToNat, Int.reduceEq, Int.reduceNe, Int.reduceLT, Int.reduceLE, hr1, hr2, hc3]
    refine hZ _ ?_
    repeat (with_reducible first | refine Pop.pop ?_ | refine ap_nil_i ?_ | refine ap_lp_i ?_ | refine ap_bl_next (by decide) ?_)
    refine Wk_cond_bool rfl (fun hc4 => ?_) (fun hc4 => ?_)
    · first | rw [if_pos hc4] at h | simp only [hc4, hc3, Bool.or_false, Bool.or_true, Bool.false_or, Bool.true_or, Bool.and_true, Bool.true_and, Bool.and_false, Bool.false_and, Bool.not_true, Bool.not_false, Bool.false_eq_true, if_true, if_false] at h
      refine Wk_seq ?_
      refine Wk_regionZ fun Z hZ => ?_
      simp (config := { maxSteps := 4000000 }) only [go_sem, Nat.reduceLT, Nat.reduceEqDiff, Nat.reduceAdd, Nat.reduceBEq, Nat.reduceMul, Nat.reduceSub, reduceIte, Nat.reduceLeDiff, reduceCtorEq, Int.reduceNeg, Int.reduceToNat, Int.reduceEq, Int.reduceNe, Int.reduceLT, Int.reduceLE, hr1, hr2, hc3, hc4]
      refine hZ _ ?_
      repeat (with_reducible first | refine Pop.pop ?_ | refine ap_nil_i ?_ | refine ap_lp_i ?_ | refine ap_bl_next (by decide) ?_)
      refine Wk_ret ?_
      repeat (with_reducible first | refine Pop.pop ?_ | refine ap_nil_i ?_ | refine ap_lp_i ?_ | refine ap_bl_next (by decide) ?_)
      simp (config := { maxSteps := 4000000 }) only [go_sem, Nat.reduceLT, Nat.reduceEqDiff, Nat.reduceAdd, Nat.reduceBEq, Nat.reduceMul, Nat.reduceSub, reduceIte, Nat.reduceLeDiff, reduceCtorEq, Int.reduceNeg, Int.reduceToNat, Int.reduceEq, Int.reduceNe, Int.reduceLT, Int.reduceLE, hr1, hr2, hc3, hc4, FinW_ret, List.length_set, List.take_length]
      obtain rfl := Option.some.inj h
      exact ⟨_, rfl, (by exact ROk.refl _), (by repeat' (first | exact PureC.val _ | refine PureC.tup ?_ | refine PureC.agg ?_ | exact pure_nil | refine pure_cons ?_ ?_))⟩
    · first | rw [if_neg (ne_true_of_eq_false hc4)] at h | simp only [hc4, hc3, Bool.or_false, Bool.or_true, Bool.false_or, Bool.true_or, Bool.and_true, Bool.true_and, Bool.and_false, Bool.false_and, Bool.not_true, Bool.not_false, Bool.false_eq_true, if_true, if_false] at h
      refine Wk_skip ?_
      repeat (with_reducible first | refine Pop.pop ?_ | refine ap_nil_i ?_ | refine ap_lp_i ?_ | refine ap_bl_next (by decide) ?_)
      refine Wk_seq ?_
      refine Wk_regionZ fun Z hZ => ?_
      simp (config := { maxSteps := 4000000 }) only [go_sem, Nat.reduceLT, Nat.reduceEqDiff, Nat.reduceAdd, Nat.reduceBEq, Nat.reduceMul, Nat.reduceSub, reduceIte, Nat.reduceLeDiff, reduceCtorEq, Int.reduceNeg, Int.reduceToNat, Int.reduceEq, Int.reduceNe, Int.reduceLT, Int.reduceLE, hr1, hr2, hc3, hc4]
      refine hZ _ ?_
      repeat (with_reducible first | refine Pop.pop ?_ | refine ap_nil_i ?_ | refine ap_lp_i ?_ | refine ap_bl_next (by decide) ?_)
      refine Wk_ret ?_
      repeat (with_reducible first | refine Pop.pop ?_ | refine ap_nil_i ?_ | refine ap_lp_i ?_ | refine ap_bl_next (by decide) ?_)
      simp (config := { maxSteps := 4000000 }) only [go_sem, Nat.reduceLT, Nat.reduceEqDiff, Nat.reduceAdd, Nat.reduceBEq, Nat.reduceMul, Nat.reduceSub, reduceIte, Nat.reduceLeDiff, reduceCtorEq, Int.reduceNeg, Int.reduceToNat, Int.reduceEq, Int.reduceNe, Int.reduceLT, Int.reduceLE, hr1, hr2, hc3, hc4, FinW_ret, List.length_set, List.take_length]
      obtain rfl := Option.some.inj h
      exact ⟨_, rfl, (by exact ROk.refl _), (by repeat' (first | exact PureC.val _ | refine PureC.tup ?_ | refine PureC.agg ?_ | exact pure_nil | refine pure_cons ?_ ?_))⟩
  · first | rw [if_neg (ne_true_of_eq_false hc3)] at h | simp only [hc3, Bool.or_false, Bool.or_true, Bool.false_or, Bool.true_or, Bool.and_true, Bool.true_and, Bool.and_false, Bool.false_and, Bool.not_true, Bool.not_false, Bool.false_eq_true, if_true, if_false] at h
    refine Wk_skip ?_
    repeat (with_reducible first | refine Pop.pop ?_ | refine ap_nil_i ?_ | refine ap_lp_i ?_ | refine ap_bl_next (by decide) ?_)
    refine Wk_seq ?_
    refine Wk_seq ?_
    refine Wk_regionZ fun Z hZ => ?_
    simp (config := { maxSteps := 4000000 }) only [go_sem, Nat.reduceLT, Nat.reduceEqDiff, Nat.reduceAdd, Nat.reduceBEq, Nat.reduceMul, Nat.reduceSub, reduceIte, Nat.reduceLeDiff, reduceCtorEq, Int.reduceNeg, Int.reduceToNat, Int.reduceEq, Int.reduceNe, Int.reduceLT, Int.reduceLE, hr1, hr2, hc3]
    refine hZ _ ?_
    repeat (with_reducible first | refine Pop.pop ?_ | refine ap_nil_i ?_ | refine ap_lp_i ?_ | refine ap_bl_next (by decide) ?_)
    refine Wk_cond_bool rfl (fun hc5 => ?_) (fun hc5 => ?_)
    · first | rw [if_pos hc5] at h | simp only [hc5, hc3, Bool.or_false, Bool.or_true, Bool.false_or, Bool.true_or, Bool.and_true, Bool.true_and, Bool.and_false, Bool.false_and, Bool.not_true, Bool.not_false, Bool.false_eq_true, if_true, if_false] at h
      refine Wk_seq ?_
      refine Wk_regionZ fun Z hZ => ?_
      simp (config := { maxSteps := 4000000 }) only [go_sem, Nat.reduceLT, Nat.reduceEqDiff, Nat.reduceAdd, Nat.reduceBEq, Nat.reduceMul, Nat.reduceSub, reduceIte, Nat.reduceLeDiff, reduceCtorEq, Int.reduceNeg, Int.reduceToNat, Int.reduceEq, Int.reduceNe, Int.reduceLT, Int.reduceLE, hr1, hr2, hc3, hc5]
      refine hZ _ ?_
      repeat (with_reducible first | refine Pop.pop ?_ | refine ap_nil_i ?_ | refine ap_lp_i ?_ | refine ap_bl_next (by decide) ?_)
      refine Wk_ret ?_
      repeat (with_reducible first | refine Pop.pop ?_ | refine ap_nil_i ?_ | refine ap_lp_i ?_ | refine ap_bl_next (by decide) ?_)
      simp (config := { maxSteps := 4000000 }) only [go_sem, Nat.reduceLT, Nat.reduceEqDiff, Nat.reduceAdd, Nat.reduceBEq, Nat.reduceMul, Nat.reduceSub, reduceIte, Nat.reduceLeDiff, reduceCtorEq, Int.reduceNeg, Int.reduceToNat, Int.reduceEq, Int.reduceNe, Int.reduceLT, Int.reduceLE, hr1, hr2, hc3, hc5, FinW_ret, List.length_set, List.take_length]
      obtain rfl := Option.some.inj h
      exact ⟨_, rfl, (by exact ROk.refl _), (by repeat' (first | exact PureC.val _ | refine PureC.tup ?_ | refine PureC.agg ?_ | exact pure_nil | refine pure_cons ?_ ?_))⟩
    · first | rw [if_neg (ne_true_of_eq_false hc5)] at h | simp only [hc5, hc3, Bool.or_false, Bool.or_true, Bool.false_or, Bool.true_or, Bool.and_true, Bool.true_and, Bool.and_false, Bool.false_and, Bool.not_true, Bool.not_false, Bool.false_eq_true, if_true, if_false] at h
      refine Wk_skip ?_
      repeat (with_reducible first | refine Pop.pop ?_ | refine ap_nil_i ?_ | refine ap_lp_i ?_ | refine ap_bl_next (by decide) ?_)
      refine Wk_seq ?_
      refine Wk_seq ?_
      refine Wk_regionZ fun Z hZ => ?_
      simp (config := { maxSteps := 4000000 }) only [go_sem, Nat.reduceLT, Nat.reduceEqDiff, Nat.reduceAdd, Nat.reduceBEq, Nat.reduceMul, Nat.reduceSub, reduceIte, Nat.reduceLeDiff, reduceCtorEq, Int.reduceNeg, Int.reduceToNat, Int.reduceEq, Int.reduceNe, Int.reduceLT, Int.reduceLE, hr1, hr2, hc3, hc5]
      refine hZ _ ?_
      repeat (with_reducible first | refine Pop.pop ?_ | refine ap_nil_i ?_ | refine ap_lp_i ?_ | refine ap_bl_next (by decide) ?_)
      refine Wk_cond_bool rfl (fun hc6 => ?_) (fun hc6 => ?_)
      · first | rw [if_pos hc6] at h | simp only [hc6, hc3, hc5, Bool.or_false, Bool.or_true, Bool.false_or, Bool.true_or, Bool.and_true, Bool.true_and, Bool.and_false, Bool.false_and, Bool.not_true, Bool.not_false, Bool.false_eq_true, if_true, if_false] at h
        refine Wk_seq ?_
        refine Wk_regionZ fun Z hZ => ?_
        simp (config := { maxSteps := 4000000 }) only [go_sem, Nat.reduceLT, Nat.reduceEqDiff, Nat.reduceAdd, Nat.reduceBEq, Nat.reduceMul, Nat.reduceSub, reduceIte, Nat.reduceLeDiff, reduceCtorEq, Int.reduceNeg, Int.reduceToNat, Int.reduceEq, Int.reduceNe, Int.reduceLT, Int.reduceLE, hr1, hr2, hc3, hc5, hc6]
        refine hZ _ ?_
        repeat (with_reducible first | refine Pop.pop ?_ | refine ap_nil_i ?_ | refine ap_lp_i ?_ | refine ap_bl_next (by decide) ?_)
        refine Wk_ret ?_
        repeat (with_reducible first | refine Pop.pop ?_ | refine ap_nil_i ?_ | refine ap_lp_i ?_ | refine ap_bl_next (by decide) ?_)
        simp (config := { maxSteps := 4000000 }) only [go_sem, Nat.reduceLT, Nat.reduceEqDiff, Nat.reduceAdd, Nat.reduceBEq, Nat.reduceMul, Nat.reduceSub, reduceIte, Nat.reduceLeDiff, reduceCtorEq, Int.reduceNeg, Int.reduceToNat, Int.reduceEq, Int.reduceNe, Int.reduceLT, Int.reduceLE, hr1, hr2, hc3, hc5, hc6, FinW_ret, List.length_set, List.take_length]
        obtain rfl := Option.some.inj h
        exact ⟨_, rfl, (by exact ROk.refl _), (by repeat' (first | exact PureC.val _ | refine PureC.tup ?_ | refine PureC.agg ?_ | exact pure_nil | refine pure_cons ?_ ?_))⟩
      · first | rw [if_neg (ne_true_of_eq_false hc6)] at h | simp only [hc6, hc3, hc5, Bool.or_false, Bool.or_true, Bool.false_or, Bool.true_or, Bool.and_true, Bool.true_and, Bool.and_false, Bool.false_and, Bool.not_true, Bool.not_false, Bool.false_eq_true, if_true, if_false] at h
        refine Wk_skip ?_
        repeat (with_reducible first | refine Pop.pop ?_ | refine ap_nil_i ?_ | refine ap_lp_i ?_ | refine ap_bl_next (by decide) ?_)
        refine Wk_seq ?_
        refine Wk_seq ?_
        refine Wk_regionZ fun Z hZ => ?_
        simp (config := { maxSteps := 4000000 }) only [go_sem, Nat.reduceLT, Nat.reduceEqDiff, Nat.reduceAdd, Nat.reduceBEq, Nat.reduceMul, Nat.reduceSub, reduceIte, Nat.reduceLeDiff, reduceCtorEq, Int.reduceNeg, Int.reduceToNat, Int.reduceEq, Int.reduceNe, Int.reduceLT, Int.reduceLE, hr1, hr2, hc3, hc5, hc6]
        refine hZ _ ?_
        repeat (with_reducible first | refine Pop.pop ?_ | refine ap_nil_i ?_ | refine ap_lp_i ?_ | refine ap_bl_next (by decide) ?_)
        refine Wk_cond_nbool rfl (fun hc7 => ?_) (fun hc7 => ?_)
        · first | rw [if_neg (ne_true_of_eq_false hc7)] at h | simp only [hc7, hc3, hc5, hc6, Bool.or_false, Bool.or_true, Bool.false_or, Bool.true_or, Bool.and_true, Bool.true_and, Bool.and_false, Bool.false_and, Bool.not_true, Bool.not_false, Bool.false_eq_true, if_true, if_false] at h
          refine Wk_seq ?_
          refine Wk_regionZ fun Z hZ => ?_
          simp (config := { maxSteps := 4000000 }) only [go_sem, Nat.reduceLT, Nat.reduceEqDiff, Nat.reduceAdd, Nat.reduceBEq, Nat.reduceMul, Nat.reduceSub, reduceIte, Nat.reduceLeDiff, reduceCtorEq, Int.reduceNeg, Int.reduceToNat, Int.reduceEq, Int.reduceNe, Int.reduceLT, Int.reduceLE, hr1, hr2, hc3, hc5, hc6, hc7]
          refine hZ _ ?_
          repeat (with_reducible first | refine Pop.pop ?_ | refine ap_nil_i ?_ | refine ap_lp_i ?_ | refine ap_bl_next (by decide) ?_)
          refine Wk_ret ?_
          repeat (with_reducible first | refine Pop.pop ?_ | refine ap_nil_i ?_ | refine ap_lp_i ?_ | refine ap_bl_next (by decide) ?_)
          simp (config := { maxSteps := 4000000 }) only [go_sem, Nat.reduceLT, Nat.reduceEqDiff, Nat.reduceAdd, Nat.reduceBEq, Nat.reduceMul, Nat.reduceSub, reduceIte, Nat.reduceLeDiff, reduceCtorEq, Int.reduceNeg, Int.reduceToNat, Int.reduceEq, Int.reduceNe, Int.reduceLT, Int.reduceLE, hr1, hr2, hc3, hc5, hc6, hc7, FinW_ret, List.length_set, List.take_length]
          obtain rfl := Option.some.inj h
          exact ⟨_, rfl, (by exact ROk.refl _), (by repeat' (first | exact PureC.val _ | refine PureC.tup ?_ | refine PureC.agg ?_ | exact pure_nil | refine pure_cons ?_ ?_))⟩
        · first | rw [if_pos hc7] at h | simp only [hc7, hc3, hc5, hc6, Bool.or_false, Bool.or_true, Bool.false_or, Bool.true_or, Bool.and_true, Bool.true_and, Bool.and_false, Bool.false_and, Bool.not_true, Bool.not_false, Bool.false_eq_true, if_true, if_false] at h
          refine Wk_skip ?_
          repeat (with_reducible first | refine Pop.pop ?_ | refine ap_nil_i ?_ | refine ap_lp_i ?_ | refine ap_bl_next (by decide) ?_)
          refine Wk_seq ?_
          refine Wk_regionZ fun Z hZ => ?_
          simp (config := { maxSteps := 4000000 }) only [go_sem, Nat.reduceLT, Nat.reduceEqDiff, Nat.reduceAdd, Nat.reduceBEq, Nat.reduceMul, Nat.reduceSub, reduceIte, Nat.reduceLeDiff, reduceCtorEq, Int.reduceNeg, Int.reduceToNat, Int.reduceEq, Int.reduceNe, Int.reduceLT, Int.reduceLE, hr1, hr2, hc3, hc5, hc6, hc7]
          refine hZ _ ?_
          repeat (with_reducible first | refine Pop.pop ?_ | refine ap_nil_i ?_ | refine ap_lp_i ?_ | refine ap_bl_next (by decide) ?_)
          refine Wk_ret ?_
          repeat (with_reducible first | refine Pop.pop ?_ | refine ap_nil_i ?_ | refine ap_lp_i ?_ | refine ap_bl_next (by decide) ?_)
          simp (config := { maxSteps := 4000000 }) only [go_sem, Nat.reduceLT, Nat.reduceEqDiff, Nat.reduceAdd, Nat.reduceBEq, Nat.reduceMul, Nat.reduceSub, reduceIte, Nat.reduceLeDiff, reduceCtorEq, Int.reduceNeg, Int.reduceToNat, Int.reduceEq, Int.reduceNe, Int.reduceLT, Int.reduceLE, hr1, hr2, hc3, hc5, hc6, hc7, FinW_ret, List.length_set, List.take_length]
          obtain rfl := Option.some.inj h
          exact ⟨_, rfl, (by exact ROk.refl _), (by repeat' (first | exact PureC.val _ | refine PureC.tup ?_ | refine PureC.agg ?_ | exact pure_nil | refine pure_cons ?_ ?_))⟩
def fs_cmp_Compare_string (N : Nat) : FnS := { own := [], pure := true, fn := fun cs => match cs with
  | [c0, c1] => (decS c0).bind fun qc0 => (decS c1).bind fun qc1 => (cmp_Compare_string N qc0 qc1).map fun r => .val (.int .i64 r)
  | _ => none }
theorem fs_cmp_Compare_string_own (N : Nat) : (fs_cmp_Compare_string N).own = [] := rfl
theorem fs_cmp_Compare_string_pure (N : Nat) : (fs_cmp_Compare_string N).pure = true := rfl
attribute [go_sem] fs_cmp_Compare_string fs_cmp_Compare_string_own fs_cmp_Compare_string_pure
theorem fs_cmp_Compare_string_ok (N : Nat) : FSOk Try.prog 43 (fs_cmp_Compare_string N) := by
  refine ⟨fun cs r h => ?_, fun h => by cases h⟩
  simp only [fs_cmp_Compare_string] at h
  split at h
  · simp only [Option.bind_eq_some_iff, Option.map_eq_some_iff] at h
    obtain ⟨q0, h0, q1, h1, r', hr, rfl⟩ := h
    exact ((w_cmp_Compare_string N q0 q1 r' hr).args (LeL.cons (decS_le h0) (LeL.cons (decS_le h1) (LeL.nil))))
  · cases h

end Go.Proofs.Ytpkfhjbgnpdgcaa
end

section
set_option linter.unusedSimpArgs false
set_option linter.unusedVariables false
set_option maxRecDepth 100000
namespace Go.Proofs.Ytpkfhjbgnpdgcaa
open Go Go.Proofs Go.Abs
noncomputable def E_cmp_Or_int (N : Nat) : Env := { T := tiOf Try.prog, G := fun d f => none, F := fun d => none }
theorem E_cmp_Or_int_F (N : Nat) (d : Nat) : (E_cmp_Or_int N).F d = none := rfl
theorem E_cmp_Or_int_T (N : Nat) : (E_cmp_Or_int N).T = tiOf Try.prog := rfl
theorem E_cmp_Or_int_ok (N : Nat) : GOk Try.prog { T := tiOf Try.prog, G := (E_cmp_Or_int N).G } := by
  intro d f fs hfs
  cases hfs
theorem fo_cmp_Or_int : FunOk Try.prog 42 Try.f42 Try.f42.body.get! := ⟨Try.func42, rfl, by decide, by kernel_rfl⟩
attribute [go_sem] E_cmp_Or_int_T E_cmp_Or_int_F
set_option maxHeartbeats 4000000 in
theorem w_cmp_Or_int (N : Nat) (a0 : (List Int)) (r : Int) (h : cmp_Or_int N a0 = some r) : Con Try.prog 42 [] true [.sl false none 1 none (a0.map (rowI .i64))] (.val (.int .i64 r)) := by
  refine fun_ok3 (E := E_cmp_Or_int N) (tiOf_ok Try.prog (E_cmp_Or_int N).G) (E_cmp_Or_int_ok N) mix fo_cmp_Or_int (Nat.le_of_ble_eq_true rfl) ?_
  intro _
  rw [entry_tab (by simp)]
  rw [show entryF [] [.sl false none 1 none (a0.map (rowI .i64))] = (updT deadT 0 (.sl false none 1 none (a0.map (rowI .i64)))) from by funext t; match t with | 0 => rfl | t + 1 => rfl]
  apply Wk_start
  simp only [Try.f42, Option.get!, R0_RZ]
  unfold cmp_Or_int at h
  refine Wk_seq ?_
  refine Wk_regionZ fun Z hZ => ?_
  simp (config := { maxSteps := 4000000 }) only [go_sem, Nat.reduceLT, Nat.reduceEqDiff, Nat.reduceAdd, Nat.reduceBEq, Nat.reduceMul, Nat.reduceSub, reduceIte, Nat.reduceLeDiff, reduceCtorEq, Int.reduceNeg, Int.reduceToNat, Int.reduceEq, Int.reduceNe, Int.reduceLT, Int.reduceLE]
  refine hZ _ ?_
  repeat (with_reducible first | refine Pop.pop ?_ | refine ap_nil_i ?_ | refine ap_lp_i ?_ | refine ap_bl_next (by decide) ?_)
  refine Wk_seq ?_
  refine Wk_regionZ fun Z hZ => ?_
  simp (config := { maxSteps := 4000000 }) only [go_sem, Nat.reduceLT, Nat.reduceEqDiff, Nat.reduceAdd, Nat.reduceBEq, Nat.reduceMul, Nat.reduceSub, reduceIte, Nat.reduceLeDiff, reduceCtorEq, Int.reduceNeg, Int.reduceToNat, Int.reduceEq, Int.reduceNe, Int.reduceLT, Int.reduceLE]
  refine hZ _ ?_
  repeat (with_reducible first | refine Pop.pop ?_ | refine ap_nil_i ?_ | refine ap_lp_i ?_ | refine ap_bl_next (by decide) ?_)
  refine Wk_seq ?_
  refine Wk_seq ?_
  refine Wk_regionZ fun Z hZ => ?_
  simp (config := { maxSteps := 4000000 }) only [go_sem, Nat.reduceLT, Nat.reduceEqDiff, Nat.reduceAdd, Nat.reduceBEq, Nat.reduceMul, Nat.reduceSub, reduceIte, Nat.reduceLeDiff, reduceCtorEq, Int.reduceNeg, Int.reduceToNat, Int.reduceEq, Int.reduceNe, Int.reduceLT, Int.reduceLE]
  refine hZ _ ?_
  repeat (with_reducible first | refine Pop.pop ?_ | refine ap_nil_i ?_ | refine ap_lp_i ?_ | refine ap_bl_next (by decide) ?_)
  refine Wk_block ?_
  refine Wk_real fun hreal2 => ?_
  have hl1 := hreal2.lenT 0 (by decide) (by simp only [go_sem, Nat.reduceLT, Nat.reduceEqDiff, Nat.reduceAdd, Nat.reduceBEq, Nat.reduceMul, Nat.reduceSub, reduceIte, Nat.reduceLeDiff, reduceCtorEq, Int.reduceNeg, Int.reduceToNat, Int.reduceEq, Int.reduceNe, Int.reduceLT, Int.reduceLE, Bool.or_self, List.length_set, Int.natCast_zero, Int.cast_ofNat_Int]; rfl)
  rw [List.length_map] at hl1
  refine Wk_range (fun (v2 : Nat) (b : Unit) => ⟨tab 18 (updT (updT (updT (updT deadT 3 (.val (.int .i64 0))) 6 (.sl false none 1 none (a0.map (rowI .i64)))) 7 (.val (.int .i64 ((a0.length : Nat) : Int)))) 8 (.val (.int .i64 ((v2 : Nat) : Int)))), RZ⟩) () h ?_ ?_
  · refine weak_roots ?_ ?_
    · (repeat' (first | exact weakX_nil | refine weakX_cons ?_ ?_)) <;> (first | rfl | simp only [go_sem, Nat.reduceLT, Nat.reduceEqDiff, Nat.reduceAdd, Nat.reduceBEq, Nat.reduceMul, Nat.reduceSub, reduceIte, Nat.reduceLeDiff, reduceCtorEq, Int.reduceNeg, Int.reduceToNat, Int.reduceEq, Int.reduceNe, Int.reduceLT, Int.reduceLE, Bool.or_self, List.length_set, Int.natCast_zero, Int.cast_ofNat_Int])
    · (repeat' (first | exact weakR_nil | refine weakR_cons ?_ ?_ ?_)) <;> (first | rfl | simp only [go_sem, Nat.reduceLT, Nat.reduceEqDiff, Nat.reduceAdd, Nat.reduceBEq, Nat.reduceMul, Nat.reduceSub, reduceIte, Nat.reduceLeDiff, reduceCtorEq, Int.reduceNeg, Int.reduceToNat, Int.reduceEq, Int.reduceNe, Int.reduceLT, Int.reduceLE, Bool.or_self, List.length_set, Int.natCast_zero, Int.cast_ofNat_Int])
  · rintro v2 ⟨⟩ hi3 h -
    rcases drop_cases a0 v2 hi3 with ⟨x5, hi3', hx4, hd6⟩ | ⟨hi3', _, hd6⟩
    · rw [hd6] at h
      simp only [cmp_Or_int_L1] at h
      have hw5 := wrap_succ hi3' hl1
      refine Wk_seq ?_
      refine Wk_regionZ fun Z hZ => ?_
      simp (config := { maxSteps := 4000000 }) only [go_sem, Nat.reduceLT, Nat.reduceEqDiff, Nat.reduceAdd, Nat.reduceBEq, Nat.reduceMul, Nat.reduceSub, reduceIte, Nat.reduceLeDiff, reduceCtorEq, Int.reduceNeg, Int.reduceToNat, Int.reduceEq, Int.reduceNe, Int.reduceLT, Int.reduceLE, hx4, hi3', hw5]
      refine hZ _ ?_
      repeat (with_reducible first | refine Pop.pop ?_ | refine ap_nil_i ?_ | refine ap_lp_i ?_ | refine ap_bl_next (by decide) ?_)
      refine Wk_seq ?_
      try simp only [Int.ofNat_lt, hi3', if_true, if_false] at h
      refine Wk_cond_t rfl ?_
      refine Wk_skip ?_
      repeat (with_reducible first | refine Pop.pop ?_ | refine ap_nil_i ?_ | refine ap_lp_i ?_ | refine ap_bl_next (by decide) ?_)
      refine Wk_seq ?_
      refine Wk_block ?_
      refine Wk_seq ?_
      try rw [gx_nat hx4] at h
      refine Wk_regionZ fun Z hZ => ?_
      simp (config := { maxSteps := 4000000 }) only [go_sem, Nat.reduceLT, Nat.reduceEqDiff, Nat.reduceAdd, Nat.reduceBEq, Nat.reduceMul, Nat.reduceSub, reduceIte, Nat.reduceLeDiff, reduceCtorEq, Int.reduceNeg, Int.reduceToNat, Int.reduceEq, Int.reduceNe, Int.reduceLT, Int.reduceLE, hx4, hi3', hw5]
      refine hZ _ ?_
      repeat (with_reducible first | refine Pop.pop ?_ | refine ap_nil_i ?_ | refine ap_lp_i ?_ | refine ap_bl_next (by decide) ?_)
      refine Wk_seq ?_
      refine Wk_regionZ fun Z hZ => ?_
      simp (config := { maxSteps := 4000000 }) only [go_sem, Nat.reduceLT, Nat.reduceEqDiff, Nat.reduceAdd, Nat.reduceBEq, Nat.reduceMul, Nat.reduceSub, reduceIte, Nat.reduceLeDiff, reduceCtorEq, Int.reduceNeg, Int.reduceToNat, Int.reduceEq, Int.reduceNe, Int.reduceLT, Int.reduceLE, hx4, hi3', hw5]
      refine hZ _ ?_
      repeat (with_reducible first | refine Pop.pop ?_ | refine ap_nil_i ?_ | refine ap_lp_i ?_ | refine ap_bl_next (by decide) ?_)
      refine Wk_cond_ndec rfl (fun hc7 => ?_) (fun hc7 => ?_)
      · have hc7d := decide_eq_false hc7
        first | rw [if_neg hc7] at h | rw [if_neg (ne_true_of_eq_false hc7d)] at h | simp only [hc7d, Bool.not_true, Bool.not_false, Bool.false_eq_true, if_true, if_false] at h
        refine Wk_seq ?_
        refine Wk_regionZ fun Z hZ => ?_
        simp (config := { maxSteps := 4000000 }) only [go_sem, Nat.reduceLT, Nat.reduceEqDiff, Nat.reduceAdd, Nat.reduceBEq, Nat.reduceMul, Nat.reduceSub, reduceIte, Nat.reduceLeDiff, reduceCtorEq, Int.reduceNeg, Int.reduceToNat, Int.reduceEq, Int.reduceNe, Int.reduceLT, Int.reduceLE, hx4, hi3', hw5, hc7d]
        refine hZ _ ?_
        repeat (with_reducible first | refine Pop.pop ?_ | refine ap_nil_i ?_ | refine ap_lp_i ?_ | refine ap_bl_next (by decide) ?_)
        refine Wk_ret ?_
        repeat (with_reducible first | refine Pop.pop ?_ | refine ap_nil_i ?_ | refine ap_lp_i ?_ | refine ap_bl_next (by decide) ?_)
        simp (config := { maxSteps := 4000000 }) only [go_sem, Nat.reduceLT, Nat.reduceEqDiff, Nat.reduceAdd, Nat.reduceBEq, Nat.reduceMul, Nat.reduceSub, reduceIte, Nat.reduceLeDiff, reduceCtorEq, Int.reduceNeg, Int.reduceToNat, Int.reduceEq, Int.reduceNe, Int.reduceLT, Int.reduceLE, hx4, hi3', hw5, hc7d, FinW_ret, List.length_set, List.take_length]
        obtain rfl := Option.some.inj h
        exact ⟨_, rfl, (by exact ROk.refl _), (by repeat' (first | exact PureC.val _ | refine PureC.tup ?_ | refine PureC.agg ?_ | exact pure_nil | refine pure_cons ?_ ?_))⟩
      · have hc7d := decide_eq_true hc7
        first | rw [if_pos hc7] at h | rw [if_pos hc7d] at h | simp only [hc7d, Bool.not_true, Bool.not_false, Bool.false_eq_true, if_true, if_false] at h
        refine Wk_skip ?_
        repeat (with_reducible first | refine Pop.pop ?_ | refine ap_nil_i ?_ | refine ap_lp_i ?_ | refine ap_bl_next (by decide) ?_)
        refine Wk_regionZ fun Z hZ => ?_
        simp (config := { maxSteps := 4000000 }) only [go_sem, Nat.reduceLT, Nat.reduceEqDiff, Nat.reduceAdd, Nat.reduceBEq, Nat.reduceMul, Nat.reduceSub, reduceIte, Nat.reduceLeDiff, reduceCtorEq, Int.reduceNeg, Int.reduceToNat, Int.reduceEq, Int.reduceNe, Int.reduceLT, Int.reduceLE, hx4, hi3', hw5, hc7d]
        refine hZ _ ?_
        repeat (with_reducible first | refine Pop.pop ?_ | refine ap_nil_i ?_ | refine ap_lp_i ?_ | refine ap_bl_next (by decide) ?_)
        first | refine ⟨(), ?_, h⟩ | refine ⟨hi3', (), ?_, h⟩
        refine weak_roots ?_ ?_
        · (repeat' (first | exact weakX_nil | refine weakX_cons ?_ ?_)) <;> (first | rfl | simp only [go_sem, Nat.reduceLT, Nat.reduceEqDiff, Nat.reduceAdd, Nat.reduceBEq, Nat.reduceMul, Nat.reduceSub, reduceIte, Nat.reduceLeDiff, reduceCtorEq, Int.reduceNeg, Int.reduceToNat, Int.reduceEq, Int.reduceNe, Int.reduceLT, Int.reduceLE, Bool.or_self, List.length_set, Int.natCast_zero, Int.cast_ofNat_Int, hx4, hi3', hw5, hc7d])
        · (repeat' (first | exact weakR_nil | refine weakR_cons ?_ ?_ ?_)) <;> (first | rfl | simp only [go_sem, Nat.reduceLT, Nat.reduceEqDiff, Nat.reduceAdd, Nat.reduceBEq, Nat.reduceMul, Nat.reduceSub, reduceIte, Nat.reduceLeDiff, reduceCtorEq, Int.reduceNeg, Int.reduceToNat, Int.reduceEq, Int.reduceNe, Int.reduceLT, Int.reduceLE, Bool.or_self, List.length_set, Int.natCast_zero, Int.cast_ofNat_Int, hx4, hi3', hw5, hc7d])
    · rw [hd6] at h
      simp only [cmp_Or_int_L1] at h
      refine Wk_seq ?_
      refine Wk_regionZ fun Z hZ => ?_
      simp (config := { maxSteps := 4000000 }) only [go_sem, Nat.reduceLT, Nat.reduceEqDiff, Nat.reduceAdd, Nat.reduceBEq, Nat.reduceMul, Nat.reduceSub, reduceIte, Nat.reduceLeDiff, reduceCtorEq, Int.reduceNeg, Int.reduceToNat, Int.reduceEq, Int.reduceNe, Int.reduceLT, Int.reduceLE, hi3']
      refine hZ _ ?_
      repeat (with_reducible first | refine Pop.pop ?_ | refine ap_nil_i ?_ | refine ap_lp_i ?_ | refine ap_bl_next (by decide) ?_)
      refine Wk_seq ?_
      try simp only [Int.ofNat_lt, hi3', if_true, if_false] at h
      refine Wk_cond_f rfl ?_
      refine Wk_exit ?_
      repeat (with_reducible first | refine Pop.pop ?_ | refine ap_nil_i ?_ | refine ap_lp_i ?_ | refine ap_bl_next (by decide) ?_)
      refine Wk_seq ?_
      refine Wk_regionZ fun Z hZ => ?_
      simp (config := { maxSteps := 4000000 }) only [go_sem, Nat.reduceLT, Nat.reduceEqDiff, Nat.reduceAdd, Nat.reduceBEq, Nat.reduceMul, Nat.reduceSub, reduceIte, Nat.reduceLeDiff, reduceCtorEq, Int.reduceNeg, Int.reduceToNat, Int.reduceEq, Int.reduceNe, Int.reduceLT, Int.reduceLE, hi3']
      refine hZ _ ?_
      repeat (with_reducible first | refine Pop.pop ?_ | refine ap_nil_i ?_ | refine ap_lp_i ?_ | refine ap_bl_next (by decide) ?_)
      refine Wk_ret ?_
      repeat (with_reducible first | refine Pop.pop ?_ | refine ap_nil_i ?_ | refine ap_lp_i ?_ | refine ap_bl_next (by decide) ?_)
      simp (config := { maxSteps := 4000000 }) only [go_sem, Nat.reduceLT, Nat.reduceEqDiff, Nat.reduceAdd, Nat.reduceBEq, Nat.reduceMul, Nat.reduceSub, reduceIte, Nat.reduceLeDiff, reduceCtorEq, Int.reduceNeg, Int.reduceToNat, Int.reduceEq, Int.reduceNe, Int.reduceLT, Int.reduceLE, hi3', FinW_ret, List.length_set, List.take_length]
      obtain rfl := Option.some.inj h
      exact ⟨_, rfl, (by exact ROk.refl _), (by repeat' (first | exact PureC.val _ | refine PureC.tup ?_ | refine PureC.agg ?_ | exact pure_nil | refine pure_cons ?_ ?_))⟩
def fs_cmp_Or_int (N : Nat) : FnS := { own := [], pure := true, fn := fun cs => match cs with
  | [c0] => ((decL 1 (dec1 (decI .i64))) c0).bind fun qc0 => (cmp_Or_int N qc0).map fun r => .val (.int .i64 r)
  | _ => none }
theorem fs_cmp_Or_int_own (N : Nat) : (fs_cmp_Or_int N).own = [] := rfl
theorem fs_cmp_Or_int_pure (N : Nat) : (fs_cmp_Or_int N).pure = true := rfl
attribute [go_sem] fs_cmp_Or_int fs_cmp_Or_int_own fs_cmp_Or_int_pure
theorem fs_cmp_Or_int_ok (N : Nat) : FSOk Try.prog 42 (fs_cmp_Or_int N) := by
  refine ⟨fun cs r h => ?_, fun h => by cases h⟩
  simp only [fs_cmp_Or_int] at h
  split at h
  · simp only [Option.bind_eq_some_iff, Option.map_eq_some_iff] at h
    obtain ⟨q0, h0, r', hr, rfl⟩ := h
    exact ((w_cmp_Or_int N q0 r' hr).args (LeL.cons (decL_le (decI1_le .i64) h0) (LeL.nil)))
  · cases h

end Go.Proofs.Ytpkfhjbgnpdgcaa
end

section
set_option linter.unusedSimpArgs false
set_option linter.unusedVariables false
set_option maxRecDepth 100000
namespace Go.Proofs.Ytpkfhjbgnpdgcaa
open Go Go.Proofs Go.Abs
noncomputable def E_streams_compare (N : Nat) : Env := { T := tiOf Try.prog, G := fun d f => if d = 12 ∧ f = 43 then some (fs_cmp_Compare_string N) else if d = 18 ∧ f = 43 then some (fs_cmp_Compare_string N) else if d = 22 ∧ f = 43 then some (fs_cmp_Compare_string N) else if d = 24 ∧ f = 42 then some (fs_cmp_Or_int N) else none, F := fun d => none }
theorem E_streams_compare_F (N : Nat) (d : Nat) : (E_streams_compare N).F d = none := rfl
theorem E_streams_compare_T (N : Nat) : (E_streams_compare N).T = tiOf Try.prog := rfl
theorem E_streams_compare_G0 (N : Nat) : (E_streams_compare N).G 12 43 = some (fs_cmp_Compare_string N) := rfl
theorem E_streams_compare_G1 (N : Nat) : (E_streams_compare N).G 18 43 = some (fs_cmp_Compare_string N) := rfl
theorem E_streams_compare_G2 (N : Nat) : (E_streams_compare N).G 22 43 = some (fs_cmp_Compare_string N) := rfl
theorem E_streams_compare_G3 (N : Nat) : (E_streams_compare N).G 24 42 = some (fs_cmp_Or_int N) := rfl
theorem E_streams_compare_ok (N : Nat) : GOk Try.prog { T := tiOf Try.prog, G := (E_streams_compare N).G } := by
  intro d f fs hfs
  simp only [E_streams_compare] at hfs
  by_cases hc : d = 12 ∧ f = 43
  · rw [if_pos hc] at hfs; obtain ⟨rfl, rfl⟩ := hc; obtain rfl := Option.some.inj hfs; exact fs_cmp_Compare_string_ok N
  rw [if_neg hc] at hfs
  by_cases hc : d = 18 ∧ f = 43
  · rw [if_pos hc] at hfs; obtain ⟨rfl, rfl⟩ := hc; obtain rfl := Option.some.inj hfs; exact fs_cmp_Compare_string_ok N
  rw [if_neg hc] at hfs
  by_cases hc : d = 22 ∧ f = 43
  · rw [if_pos hc] at hfs; obtain ⟨rfl, rfl⟩ := hc; obtain rfl := Option.some.inj hfs; exact fs_cmp_Compare_string_ok N
  rw [if_neg hc] at hfs
  by_cases hc : d = 24 ∧ f = 42
  · rw [if_pos hc] at hfs; obtain ⟨rfl, rfl⟩ := hc; obtain rfl := Option.some.inj hfs; exact fs_cmp_Or_int_ok N
  rw [if_neg hc] at hfs
  cases hfs
theorem fo_streams_compare : FunOk Try.prog 33 Try.f33 Try.f33.body.get! := ⟨Try.func33, rfl, by decide, by kernel_rfl⟩
attribute [go_sem] E_streams_compare_T E_streams_compare_F E_streams_compare_G0 E_streams_compare_G1 E_streams_compare_G2 E_streams_compare_G3
set_option maxHeartbeats 4000000 in
theorem w_streams_compare (N : Nat) (a0 : Sub) (a1 : Ref) (a2 : ByteArray) (r : Int) (h : streams_compare N a0 a1 a2 = some r) : Con Try.prog 33 [] true [.agg [.val (.string a0.Target.Type_), .val (.string a0.Target.Key), .val (.string a0.Method), .val (.int .i64 a0.Cursor)], .agg [.val (.string a1.Type_), .val (.string a1.Key)], .val (.string a2)] (.val (.int .i64 r)) := by
  refine fun_ok3 (E := E_streams_compare N) (tiOf_ok Try.prog (E_streams_compare N).G) (E_streams_compare_ok N) mix fo_streams_compare (Nat.le_of_ble_eq_true rfl) ?_
  intro _
  rw [entry_tab (by simp)]
  rw [show entryF [] [.agg [.val (.string a0.Target.Type_), .val (.string a0.Target.Key), .val (.string a0.Method), .val (.int .i64 a0.Cursor)], .agg [.val (.string a1.Type_), .val (.string a1.Key)], .val (.string a2)] = (updT (updT (updT deadT 0 (.agg [.val (.string a0.Target.Type_), .val (.string a0.Target.Key), .val (.string a0.Method), .val (.int .i64 a0.Cursor)])) 1 (.agg [.val (.string a1.Type_), .val (.string a1.Key)])) 2 (.val (.string a2))) from by funext t; match t with | 0 => rfl | 1 => rfl | 2 => rfl | t + 3 => rfl]
  apply Wk_start
  simp only [Try.f33, Option.get!, R0_RZ]
  unfold streams_compare at h
  refine Wk_seq ?_
  refine Wk_regionZ fun Z hZ => ?_
  simp (config := { maxSteps := 4000000 }) only [go_sem, Nat.reduceLT, Nat.reduceEqDiff, Nat.reduceAdd, Nat.reduceBEq, Nat.reduceMul, Nat.reduceSub, reduceIte, Nat.reduceLeDiff, reduceCtorEq, Int.reduceNeg, Int.reduceToNat, Int.reduceEq, Int.reduceNe, Int.reduceLT, Int.reduceLE]
  refine hZ _ ?_
  repeat (with_reducible first | refine Pop.pop ?_ | refine ap_nil_i ?_ | refine ap_lp_i ?_ | refine ap_bl_next (by decide) ?_)
  refine Wk_seq ?_
  obtain ⟨r1, hr1, h⟩ := Option.bind_eq_some_iff.1 h
  obtain ⟨r2, hr2, h⟩ := Option.bind_eq_some_iff.1 h
  obtain ⟨r3, hr3, h⟩ := Option.bind_eq_some_iff.1 h
  obtain ⟨r4, hr4, h⟩ := Option.bind_eq_some_iff.1 h
  refine Wk_regionD fun Z hZ => ?_
  simp (config := { maxSteps := 4000000 }) only [go_sem, Nat.reduceLT, Nat.reduceEqDiff, Nat.reduceAdd, Nat.reduceBEq, Nat.reduceMul, Nat.reduceSub, reduceIte, Nat.reduceLeDiff, reduceCtorEq, Int.reduceNeg, Int.reduceToNat, Int.reduceEq, Int.reduceNe, Int.reduceLT, Int.reduceLE, hr1, hr2, hr3, hr4]
  repeat' ((with_reducible refine and_bar ?_ ?_); kernel_rfl)
  refine hZ _ (by kernel_rfl) ?_
  repeat (with_reducible first | refine Pop.pop ?_ | refine ap_nil_i ?_ | refine ap_lp_i ?_ | refine ap_bl_next (by decide) ?_)
  refine Wk_ret ?_
  repeat (with_reducible first | refine Pop.pop ?_ | refine ap_nil_i ?_ | refine ap_lp_i ?_ | refine ap_bl_next (by decide) ?_)
  simp (config := { maxSteps := 4000000 }) only [go_sem, Nat.reduceLT, Nat.reduceEqDiff, Nat.reduceAdd, Nat.reduceBEq, Nat.reduceMul, Nat.reduceSub, reduceIte, Nat.reduceLeDiff, reduceCtorEq, Int.reduceNeg, Int.reduceToNat, Int.reduceEq, Int.reduceNe, Int.reduceLT, Int.reduceLE, hr1, hr2, hr3, hr4, FinW_ret, List.length_set, List.take_length]
  obtain rfl := Option.some.inj h
  exact ⟨_, rfl, (by exact ROk.refl _), (by repeat' (first | exact PureC.val _ | refine PureC.tup ?_ | refine PureC.agg ?_ | exact pure_nil | refine pure_cons ?_ ?_))⟩
def fs_streams_compare (N : Nat) : FnS := { own := [], pure := true, fn := fun cs => match cs with
  | [c0, c1, c2] => (Sub.decA c0).bind fun qc0 => (Ref.decA c1).bind fun qc1 => (decS c2).bind fun qc2 => (streams_compare N qc0 qc1 qc2).map fun r => .val (.int .i64 r)
  | _ => none }
theorem fs_streams_compare_own (N : Nat) : (fs_streams_compare N).own = [] := rfl
theorem fs_streams_compare_pure (N : Nat) : (fs_streams_compare N).pure = true := rfl
attribute [go_sem] fs_streams_compare fs_streams_compare_own fs_streams_compare_pure
theorem fs_streams_compare_ok (N : Nat) : FSOk Try.prog 33 (fs_streams_compare N) := by
  refine ⟨fun cs r h => ?_, fun h => by cases h⟩
  simp only [fs_streams_compare] at h
  split at h
  · simp only [Option.bind_eq_some_iff, Option.map_eq_some_iff] at h
    obtain ⟨q0, h0, q1, h1, q2, h2, r', hr, rfl⟩ := h
    exact ((w_streams_compare N q0 q1 q2 r' hr).args (LeL.cons (Sub.decA_le h0) (LeL.cons (Ref.decA_le h1) (LeL.cons (decS_le h2) (LeL.nil)))))
  · cases h

end Go.Proofs.Ytpkfhjbgnpdgcaa
end

section
set_option linter.unusedSimpArgs false
set_option linter.unusedVariables false
set_option maxRecDepth 100000
namespace Go.Proofs.Ytpkfhjbgnpdgcaa
open Go Go.Proofs Go.Abs
noncomputable def E_streams_Valid (N : Nat) : Env := { T := tiOf Try.prog, G := fun d f => if d = 7 ∧ f = 21 then some (fs_streams_validName N) else if d = 47 ∧ f = 29 then some (fs_streams_validKey N) else if d = 80 ∧ f = 33 then some (fs_streams_compare N) else none, F := fun d => none }
theorem E_streams_Valid_F (N : Nat) (d : Nat) : (E_streams_Valid N).F d = none := rfl
theorem E_streams_Valid_T (N : Nat) : (E_streams_Valid N).T = tiOf Try.prog := rfl
theorem E_streams_Valid_G0 (N : Nat) : (E_streams_Valid N).G 7 21 = some (fs_streams_validName N) := rfl
theorem E_streams_Valid_G1 (N : Nat) : (E_streams_Valid N).G 47 29 = some (fs_streams_validKey N) := rfl
theorem E_streams_Valid_G2 (N : Nat) : (E_streams_Valid N).G 80 33 = some (fs_streams_compare N) := rfl
theorem E_streams_Valid_ok (N : Nat) : GOk Try.prog { T := tiOf Try.prog, G := (E_streams_Valid N).G } := by
  intro d f fs hfs
  simp only [E_streams_Valid] at hfs
  by_cases hc : d = 7 ∧ f = 21
  · rw [if_pos hc] at hfs; obtain ⟨rfl, rfl⟩ := hc; obtain rfl := Option.some.inj hfs; exact fs_streams_validName_ok N
  rw [if_neg hc] at hfs
  by_cases hc : d = 47 ∧ f = 29
  · rw [if_pos hc] at hfs; obtain ⟨rfl, rfl⟩ := hc; obtain rfl := Option.some.inj hfs; exact fs_streams_validKey_ok N
  rw [if_neg hc] at hfs
  by_cases hc : d = 80 ∧ f = 33
  · rw [if_pos hc] at hfs; obtain ⟨rfl, rfl⟩ := hc; obtain rfl := Option.some.inj hfs; exact fs_streams_compare_ok N
  rw [if_neg hc] at hfs
  cases hfs
theorem fo_streams_Valid : FunOk Try.prog 19 Try.f19 Try.f19.body.get! := ⟨Try.func19, rfl, by decide, by kernel_rfl⟩
attribute [go_sem] E_streams_Valid_T E_streams_Valid_F E_streams_Valid_G0 E_streams_Valid_G1 E_streams_Valid_G2
set_option maxHeartbeats 4000000 in
theorem w_streams_Valid (N : Nat) (a0 : Topic) (r : Bool) (h : streams_Valid N a0 = some r) : Con Try.prog 19 [] true [.agg [.val (.string a0.Name), .val (.int .i64 a0.First), .sl false none 1 none (a0.Events.map (rowI .i64)), .sl false none 4 none (a0.Subs.map Sub.row)]] (.val (.bool r)) := by
  refine fun_ok3 (E := E_streams_Valid N) (tiOf_ok Try.prog (E_streams_Valid N).G) (E_streams_Valid_ok N) mix fo_streams_Valid (Nat.le_of_ble_eq_true rfl) ?_
  intro _
  rw [entry_tab (by simp)]
  rw [show entryF [] [.agg [.val (.string a0.Name), .val (.int .i64 a0.First), .sl false none 1 none (a0.Events.map (rowI .i64)), .sl false none 4 none (a0.Subs.map Sub.row)]] = (updT deadT 0 (.agg [.val (.string a0.Name), .val (.int .i64 a0.First), .sl false none 1 none (a0.Events.map (rowI .i64)), .sl false none 4 none (a0.Subs.map Sub.row)])) from by funext t; match t with | 0 => rfl | t + 1 => rfl]
  apply Wk_start
  simp only [Try.f19, Option.get!, R0_RZ]
  unfold streams_Valid at h
  refine Wk_seq ?_
  refine Wk_regionZ fun Z hZ => ?_
  simp (config := { maxSteps := 4000000 }) only [go_sem, Nat.reduceLT, Nat.reduceEqDiff, Nat.reduceAdd, Nat.reduceBEq, Nat.reduceMul, Nat.reduceSub, reduceIte, Nat.reduceLeDiff, reduceCtorEq, Int.reduceNeg, Int.reduceToNat, Int.reduceEq, Int.reduceNe, Int.reduceLT, Int.reduceLE]
  refine hZ _ ?_
  repeat (with_reducible first | refine Pop.pop ?_ | refine ap_nil_i ?_ | refine ap_lp_i ?_ | refine ap_bl_next (by decide) ?_)
  refine Wk_seq ?_
  apply Wk_join1 (fun (c5 : Bool) => ⟨tab 84 (updT (updT deadT 1 (.pref 1 [] 0 0)) 34 (.val (.bool c5))), (upd RZ 1 (.sl true none 4 (some 1) [[.val (.string a0.Name), .val (.int .i64 a0.First), .sl false none 1 none (a0.Events.map (rowI .i64)), .sl false none 4 none (a0.Subs.map Sub.row)]]))⟩)
  · intro hJ1
    obtain ⟨r6, hr2, h⟩ := Option.bind_eq_some_iff.1 h
    refine Wk_regionZ fun Z hZ => ?_
    simp (config := { maxSteps := 4000000 }) only [go_sem, Nat.reduceLT, Nat.reduceEqDiff, Nat.reduceAdd, Nat.reduceBEq, Nat.reduceMul, Nat.reduceSub, reduceIte, Nat.reduceLeDiff, reduceCtorEq, Int.reduceNeg, Int.reduceToNat, Int.reduceEq, Int.reduceNe, Int.reduceLT, Int.reduceLE, hr2]
    refine RX_guard_nbool rfl (fun hc3 => ?_) (fun hc3 => ?_)
    · first | rw [if_neg (ne_true_of_eq_false hc3)] at h | simp only [hc3, Bool.or_false, Bool.or_true, Bool.false_or, Bool.true_or, Bool.and_true, Bool.true_and, Bool.and_false, Bool.false_and, Bool.not_true, Bool.not_false, Bool.false_eq_true, if_true, if_false] at h
      simp (config := { maxSteps := 4000000 }) only [go_sem, Nat.reduceLT, Nat.reduceEqDiff, Nat.reduceAdd, Nat.reduceBEq, Nat.reduceMul, Nat.reduceSub, reduceIte, Nat.reduceLeDiff, reduceCtorEq, Int.reduceNeg, Int.reduceToNat, Int.reduceEq, Int.reduceNe, Int.reduceLT, Int.reduceLE, hr2, hc3]
      refine hZ _ ?_
      repeat (with_reducible first | refine Pop.pop ?_ | refine ap_nil_i ?_ | refine ap_lp_i ?_ | refine ap_bl_next (by decide) ?_)
      refine hJ1 _ true ?_ h
      refine weak_roots ?_ ?_
      · (repeat' (first | exact weakX_nil | refine weakX_cons ?_ ?_)) <;> (first | rfl | simp only [go_sem, Nat.reduceLT, Nat.reduceEqDiff, Nat.reduceAdd, Nat.reduceBEq, Nat.reduceMul, Nat.reduceSub, reduceIte, Nat.reduceLeDiff, reduceCtorEq, Int.reduceNeg, Int.reduceToNat, Int.reduceEq, Int.reduceNe, Int.reduceLT, Int.reduceLE, Bool.or_self, List.length_set, Int.natCast_zero, Int.cast_ofNat_Int, hr2, hc3])
      · (repeat' (first | exact weakR_nil | refine weakR_cons ?_ ?_ ?_)) <;> (first | rfl | simp only [go_sem, Nat.reduceLT, Nat.reduceEqDiff, Nat.reduceAdd, Nat.reduceBEq, Nat.reduceMul, Nat.reduceSub, reduceIte, Nat.reduceLeDiff, reduceCtorEq, Int.reduceNeg, Int.reduceToNat, Int.reduceEq, Int.reduceNe, Int.reduceLT, Int.reduceLE, Bool.or_self, List.length_set, Int.natCast_zero, Int.cast_ofNat_Int, hr2, hc3])
    · first | rw [if_pos hc3] at h | simp only [hc3, Bool.or_false, Bool.or_true, Bool.false_or, Bool.true_or, Bool.and_true, Bool.true_and, Bool.and_false, Bool.false_and, Bool.not_true, Bool.not_false, Bool.false_eq_true, if_true, if_false] at h
      simp (config := { maxSteps := 4000000 }) only [go_sem, Nat.reduceLT, Nat.reduceEqDiff, Nat.reduceAdd, Nat.reduceBEq, Nat.reduceMul, Nat.reduceSub, reduceIte, Nat.reduceLeDiff, reduceCtorEq, Int.reduceNeg, Int.reduceToNat, Int.reduceEq, Int.reduceNe, Int.reduceLT, Int.reduceLE, hr2, hc3]
      refine RX_guard_dec rfl (fun hc4 => ?_) (fun hc4 => ?_)
      · have hc4d := decide_eq_true hc4
        first | rw [if_pos hc4] at h | rw [if_pos hc4d] at h | simp only [hc4d, Bool.not_true, Bool.not_false, Bool.false_eq_true, if_true, if_false] at h
        simp (config := { maxSteps := 4000000 }) only [go_sem, Nat.reduceLT, Nat.reduceEqDiff, Nat.reduceAdd, Nat.reduceBEq, Nat.reduceMul, Nat.reduceSub, reduceIte, Nat.reduceLeDiff, reduceCtorEq, Int.reduceNeg, Int.reduceToNat, Int.reduceEq, Int.reduceNe, Int.reduceLT, Int.reduceLE, hr2, hc3, hc4d]
        refine hZ _ ?_
        repeat (with_reducible first | refine Pop.pop ?_ | refine ap_nil_i ?_ | refine ap_lp_i ?_ | refine ap_bl_next (by decide) ?_)
        refine hJ1 _ true ?_ h
        refine weak_roots ?_ ?_
        · (repeat' (first | exact weakX_nil | refine weakX_cons ?_ ?_)) <;> (first | rfl | simp only [go_sem, Nat.reduceLT, Nat.reduceEqDiff, Nat.reduceAdd, Nat.reduceBEq, Nat.reduceMul, Nat.reduceSub, reduceIte, Nat.reduceLeDiff, reduceCtorEq, Int.reduceNeg, Int.reduceToNat, Int.reduceEq, Int.reduceNe, Int.reduceLT, Int.reduceLE, Bool.or_self, List.length_set, Int.natCast_zero, Int.cast_ofNat_Int, hr2, hc3, hc4d])
        · (repeat' (first | exact weakR_nil | refine weakR_cons ?_ ?_ ?_)) <;> (first | rfl | simp only [go_sem, Nat.reduceLT, Nat.reduceEqDiff, Nat.reduceAdd, Nat.reduceBEq, Nat.reduceMul, Nat.reduceSub, reduceIte, Nat.reduceLeDiff, reduceCtorEq, Int.reduceNeg, Int.reduceToNat, Int.reduceEq, Int.reduceNe, Int.reduceLT, Int.reduceLE, Bool.or_self, List.length_set, Int.natCast_zero, Int.cast_ofNat_Int, hr2, hc3, hc4d])
      · have hc4d := decide_eq_false hc4
        first | rw [if_neg hc4] at h | rw [if_neg (ne_true_of_eq_false hc4d)] at h | simp only [hc4d, Bool.not_true, Bool.not_false, Bool.false_eq_true, if_true, if_false] at h
        simp (config := { maxSteps := 4000000 }) only [go_sem, Nat.reduceLT, Nat.reduceEqDiff, Nat.reduceAdd, Nat.reduceBEq, Nat.reduceMul, Nat.reduceSub, reduceIte, Nat.reduceLeDiff, reduceCtorEq, Int.reduceNeg, Int.reduceToNat, Int.reduceEq, Int.reduceNe, Int.reduceLT, Int.reduceLE, hr2, hc3, hc4d]
        refine RX_guard_dec rfl (fun hc5 => ?_) (fun hc5 => ?_)
        · have hc5d := decide_eq_true hc5
          first | rw [if_pos hc5] at h | rw [if_pos hc5d] at h | simp only [hc5d, Bool.not_true, Bool.not_false, Bool.false_eq_true, if_true, if_false] at h
          simp (config := { maxSteps := 4000000 }) only [go_sem, Nat.reduceLT, Nat.reduceEqDiff, Nat.reduceAdd, Nat.reduceBEq, Nat.reduceMul, Nat.reduceSub, reduceIte, Nat.reduceLeDiff, reduceCtorEq, Int.reduceNeg, Int.reduceToNat, Int.reduceEq, Int.reduceNe, Int.reduceLT, Int.reduceLE, hr2, hc3, hc4d, hc5d]
          refine hZ _ ?_
          repeat (with_reducible first | refine Pop.pop ?_ | refine ap_nil_i ?_ | refine ap_lp_i ?_ | refine ap_bl_next (by decide) ?_)
          refine hJ1 _ true ?_ h
          refine weak_roots ?_ ?_
          · (repeat' (first | exact weakX_nil | refine weakX_cons ?_ ?_)) <;> (first | rfl | simp only [go_sem, Nat.reduceLT, Nat.reduceEqDiff, Nat.reduceAdd, Nat.reduceBEq, Nat.reduceMul, Nat.reduceSub, reduceIte, Nat.reduceLeDiff, reduceCtorEq, Int.reduceNeg, Int.reduceToNat, Int.reduceEq, Int.reduceNe, Int.reduceLT, Int.reduceLE, Bool.or_self, List.length_set, Int.natCast_zero, Int.cast_ofNat_Int, hr2, hc3, hc4d, hc5d])
          · (repeat' (first | exact weakR_nil | refine weakR_cons ?_ ?_ ?_)) <;> (first | rfl | simp only [go_sem, Nat.reduceLT, Nat.reduceEqDiff, Nat.reduceAdd, Nat.reduceBEq, Nat.reduceMul, Nat.reduceSub, reduceIte, Nat.reduceLeDiff, reduceCtorEq, Int.reduceNeg, Int.reduceToNat, Int.reduceEq, Int.reduceNe, Int.reduceLT, Int.reduceLE, Bool.or_self, List.length_set, Int.natCast_zero, Int.cast_ofNat_Int, hr2, hc3, hc4d, hc5d])
        · have hc5d := decide_eq_false hc5
          first | rw [if_neg hc5] at h | rw [if_neg (ne_true_of_eq_false hc5d)] at h | simp only [hc5d, Bool.not_true, Bool.not_false, Bool.false_eq_true, if_true, if_false] at h
          simp (config := { maxSteps := 4000000 }) only [go_sem, Nat.reduceLT, Nat.reduceEqDiff, Nat.reduceAdd, Nat.reduceBEq, Nat.reduceMul, Nat.reduceSub, reduceIte, Nat.reduceLeDiff, reduceCtorEq, Int.reduceNeg, Int.reduceToNat, Int.reduceEq, Int.reduceNe, Int.reduceLT, Int.reduceLE, hr2, hc3, hc4d, hc5d]
          refine RX_guard_dec rfl (fun hc6 => ?_) (fun hc6 => ?_)
          · have hc6d := decide_eq_true hc6
            first | rw [if_pos hc6] at h | rw [if_pos hc6d] at h | simp only [hc6d, Bool.not_true, Bool.not_false, Bool.false_eq_true, if_true, if_false] at h
            simp (config := { maxSteps := 4000000 }) only [go_sem, Nat.reduceLT, Nat.reduceEqDiff, Nat.reduceAdd, Nat.reduceBEq, Nat.reduceMul, Nat.reduceSub, reduceIte, Nat.reduceLeDiff, reduceCtorEq, Int.reduceNeg, Int.reduceToNat, Int.reduceEq, Int.reduceNe, Int.reduceLT, Int.reduceLE, hr2, hc3, hc4d, hc5d, hc6d]
            refine hZ _ ?_
            repeat (with_reducible first | refine Pop.pop ?_ | refine ap_nil_i ?_ | refine ap_lp_i ?_ | refine ap_bl_next (by decide) ?_)
            refine hJ1 _ true ?_ h
            refine weak_roots ?_ ?_
            · (repeat' (first | exact weakX_nil | refine weakX_cons ?_ ?_)) <;> (first | rfl | simp only [go_sem, Nat.reduceLT, Nat.reduceEqDiff, Nat.reduceAdd, Nat.reduceBEq, Nat.reduceMul, Nat.reduceSub, reduceIte, Nat.reduceLeDiff, reduceCtorEq, Int.reduceNeg, Int.reduceToNat, Int.reduceEq, Int.reduceNe, Int.reduceLT, Int.reduceLE, Bool.or_self, List.length_set, Int.natCast_zero, Int.cast_ofNat_Int, hr2, hc3, hc4d, hc5d, hc6d])
            · (repeat' (first | exact weakR_nil | refine weakR_cons ?_ ?_ ?_)) <;> (first | rfl | simp only [go_sem, Nat.reduceLT, Nat.reduceEqDiff, Nat.reduceAdd, Nat.reduceBEq, Nat.reduceMul, Nat.reduceSub, reduceIte, Nat.reduceLeDiff, reduceCtorEq, Int.reduceNeg, Int.reduceToNat, Int.reduceEq, Int.reduceNe, Int.reduceLT, Int.reduceLE, Bool.or_self, List.length_set, Int.natCast_zero, Int.cast_ofNat_Int, hr2, hc3, hc4d, hc5d, hc6d])
          · have hc6d := decide_eq_false hc6
            first | rw [if_neg hc6] at h | rw [if_neg (ne_true_of_eq_false hc6d)] at h | simp only [hc6d, Bool.not_true, Bool.not_false, Bool.false_eq_true, if_true, if_false] at h
            simp (config := { maxSteps := 4000000 }) only [go_sem, Nat.reduceLT, Nat.reduceEqDiff, Nat.reduceAdd, Nat.reduceBEq, Nat.reduceMul, Nat.reduceSub, reduceIte, Nat.reduceLeDiff, reduceCtorEq, Int.reduceNeg, Int.reduceToNat, Int.reduceEq, Int.reduceNe, Int.reduceLT, Int.reduceLE, hr2, hc3, hc4d, hc5d, hc6d]
            refine hZ _ ?_
            repeat (with_reducible first | refine Pop.pop ?_ | refine ap_nil_i ?_ | refine ap_lp_i ?_ | refine ap_bl_next (by decide) ?_)
            refine hJ1 _ (decide (8 < ((a0.Subs.length : Nat) : Int))) ?_ h
            refine weak_roots ?_ ?_
            · (repeat' (first | exact weakX_nil | refine weakX_cons ?_ ?_)) <;> (first | rfl | simp only [go_sem, Nat.reduceLT, Nat.reduceEqDiff, Nat.reduceAdd, Nat.reduceBEq, Nat.reduceMul, Nat.reduceSub, reduceIte, Nat.reduceLeDiff, reduceCtorEq, Int.reduceNeg, Int.reduceToNat, Int.reduceEq, Int.reduceNe, Int.reduceLT, Int.reduceLE, Bool.or_self, List.length_set, Int.natCast_zero, Int.cast_ofNat_Int, hr2, hc3, hc4d, hc5d, hc6d])
            · (repeat' (first | exact weakR_nil | refine weakR_cons ?_ ?_ ?_)) <;> (first | rfl | simp only [go_sem, Nat.reduceLT, Nat.reduceEqDiff, Nat.reduceAdd, Nat.reduceBEq, Nat.reduceMul, Nat.reduceSub, reduceIte, Nat.reduceLeDiff, reduceCtorEq, Int.reduceNeg, Int.reduceToNat, Int.reduceEq, Int.reduceNe, Int.reduceLT, Int.reduceLE, Bool.or_self, List.length_set, Int.natCast_zero, Int.cast_ofNat_Int, hr2, hc3, hc4d, hc5d, hc6d])
  · intro c5 h
    unfold streams_Valid_J1 at h
    refine Wk_cond_bool rfl (fun hc7 => ?_) (fun hc7 => ?_)
    · first | rw [if_pos hc7] at h | simp only [hc7, Bool.or_false, Bool.or_true, Bool.false_or, Bool.true_or, Bool.and_true, Bool.true_and, Bool.and_false, Bool.false_and, Bool.not_true, Bool.not_false, Bool.false_eq_true, if_true, if_false] at h
      refine Wk_seq ?_
      refine Wk_regionZ fun Z hZ => ?_
      simp (config := { maxSteps := 4000000 }) only [go_sem, Nat.reduceLT, Nat.reduceEqDiff, Nat.reduceAdd, Nat.reduceBEq, Nat.reduceMul, Nat.reduceSub, reduceIte, Nat.reduceLeDiff, reduceCtorEq, Int.reduceNeg, Int.reduceToNat, Int.reduceEq, Int.reduceNe, Int.reduceLT, Int.reduceLE, hc7]
      refine hZ _ ?_
      repeat (with_reducible first | refine Pop.pop ?_ | refine ap_nil_i ?_ | refine ap_lp_i ?_ | refine ap_bl_next (by decide) ?_)
      refine Wk_ret ?_
      repeat (with_reducible first | refine Pop.pop ?_ | refine ap_nil_i ?_ | refine ap_lp_i ?_ | refine ap_bl_next (by decide) ?_)
      simp (config := { maxSteps := 4000000 }) only [go_sem, Nat.reduceLT, Nat.reduceEqDiff, Nat.reduceAdd, Nat.reduceBEq, Nat.reduceMul, Nat.reduceSub, reduceIte, Nat.reduceLeDiff, reduceCtorEq, Int.reduceNeg, Int.reduceToNat, Int.reduceEq, Int.reduceNe, Int.reduceLT, Int.reduceLE, hc7, FinW_ret, List.length_set, List.take_length]
      obtain rfl := Option.some.inj h
      exact ⟨_, rfl, (by exact ROk.refl _), (by repeat' (first | exact PureC.val _ | refine PureC.tup ?_ | refine PureC.agg ?_ | exact pure_nil | refine pure_cons ?_ ?_))⟩
    · first | rw [if_neg (ne_true_of_eq_false hc7)] at h | simp only [hc7, Bool.or_false, Bool.or_true, Bool.false_or, Bool.true_or, Bool.and_true, Bool.true_and, Bool.and_false, Bool.false_and, Bool.not_true, Bool.not_false, Bool.false_eq_true, if_true, if_false] at h
      refine Wk_skip ?_
      repeat (with_reducible first | refine Pop.pop ?_ | refine ap_nil_i ?_ | refine ap_lp_i ?_ | refine ap_bl_next (by decide) ?_)
      unfold streams_Valid_J5 at h
      refine Wk_seq ?_
      refine Wk_seq ?_
      refine Wk_regionZ fun Z hZ => ?_
      simp (config := { maxSteps := 4000000 }) only [go_sem, Nat.reduceLT, Nat.reduceEqDiff, Nat.reduceAdd, Nat.reduceBEq, Nat.reduceMul, Nat.reduceSub, reduceIte, Nat.reduceLeDiff, reduceCtorEq, Int.reduceNeg, Int.reduceToNat, Int.reduceEq, Int.reduceNe, Int.reduceLT, Int.reduceLE, hc7]
      refine hZ _ ?_
      repeat (with_reducible first | refine Pop.pop ?_ | refine ap_nil_i ?_ | refine ap_lp_i ?_ | refine ap_bl_next (by decide) ?_)
      refine Wk_block ?_
      refine Wk_real fun hreal9 => ?_
      have hl8 := hreal9.lenT 36 (by decide) (by simp only [go_sem, Nat.reduceLT, Nat.reduceEqDiff, Nat.reduceAdd, Nat.reduceBEq, Nat.reduceMul, Nat.reduceSub, reduceIte, Nat.reduceLeDiff, reduceCtorEq, Int.reduceNeg, Int.reduceToNat, Int.reduceEq, Int.reduceNe, Int.reduceLT, Int.reduceLE, Bool.or_self, List.length_set, Int.natCast_zero, Int.cast_ofNat_Int, hc7]; rfl)
      rw [List.length_map] at hl8
      refine Wk_range (fun (v6 : Nat) (b : Unit) => ⟨tab 84 (updT (updT (updT (updT deadT 1 (.pref 1 [] 0 0)) 36 (.sl false none 4 none (a0.Subs.map Sub.row))) 37 (.val (.int .i64 ((a0.Subs.length : Nat) : Int)))) 38 (.val (.int .i64 ((v6 : Nat) : Int)))), (upd RZ 1 (.sl true none 4 (some 1) [[.val (.string a0.Name), .val (.int .i64 a0.First), .sl false none 1 none (a0.Events.map (rowI .i64)), .sl false none 4 none (a0.Subs.map Sub.row)]]))⟩) () h ?_ ?_
      · refine weak_roots ?_ ?_
        · (repeat' (first | exact weakX_nil | refine weakX_cons ?_ ?_)) <;> (first | rfl | simp only [go_sem, Nat.reduceLT, Nat.reduceEqDiff, Nat.reduceAdd, Nat.reduceBEq, Nat.reduceMul, Nat.reduceSub, reduceIte, Nat.reduceLeDiff, reduceCtorEq, Int.reduceNeg, Int.reduceToNat, Int.reduceEq, Int.reduceNe, Int.reduceLT, Int.reduceLE, Bool.or_self, List.length_set, Int.natCast_zero, Int.cast_ofNat_Int, hc7])
        · (repeat' (first | exact weakR_nil | refine weakR_cons ?_ ?_ ?_)) <;> (first | rfl | simp only [go_sem, Nat.reduceLT, Nat.reduceEqDiff, Nat.reduceAdd, Nat.reduceBEq, Nat.reduceMul, Nat.reduceSub, reduceIte, Nat.reduceLeDiff, reduceCtorEq, Int.reduceNeg, Int.reduceToNat, Int.reduceEq, Int.reduceNe, Int.reduceLT, Int.reduceLE, Bool.or_self, List.length_set, Int.natCast_zero, Int.cast_ofNat_Int, hc7])
      · rintro v6 ⟨⟩ hi10 h -
        rcases drop_cases a0.Subs v6 hi10 with ⟨x9, hi10', hx11, hd13⟩ | ⟨hi10', _, hd13⟩
        · rw [hd13] at h
          simp only [streams_Valid_L1] at h
          have hw12 := wrap_succ hi10' hl8
          refine Wk_seq ?_
          refine Wk_regionZ fun Z hZ => ?_
          simp (config := { maxSteps := 4000000 }) only [go_sem, Nat.reduceLT, Nat.reduceEqDiff, Nat.reduceAdd, Nat.reduceBEq, Nat.reduceMul, Nat.reduceSub, reduceIte, Nat.reduceLeDiff, reduceCtorEq, Int.reduceNeg, Int.reduceToNat, Int.reduceEq, Int.reduceNe, Int.reduceLT, Int.reduceLE, hc7, hx11, hi10', hw12]
          refine hZ _ ?_
          repeat (with_reducible first | refine Pop.pop ?_ | refine ap_nil_i ?_ | refine ap_lp_i ?_ | refine ap_bl_next (by decide) ?_)
          refine Wk_seq ?_
          try simp only [Int.ofNat_lt, hi10', if_true, if_false] at h
          refine Wk_cond_t rfl ?_
          refine Wk_skip ?_
          repeat (with_reducible first | refine Pop.pop ?_ | refine ap_nil_i ?_ | refine ap_lp_i ?_ | refine ap_bl_next (by decide) ?_)
          refine Wk_seq ?_
          refine Wk_block ?_
          refine Wk_seq ?_
          try rw [gx_nat hx11] at h
          refine Wk_regionZ fun Z hZ => ?_
          simp (config := { maxSteps := 4000000 }) only [go_sem, Nat.reduceLT, Nat.reduceEqDiff, Nat.reduceAdd, Nat.reduceBEq, Nat.reduceMul, Nat.reduceSub, reduceIte, Nat.reduceLeDiff, reduceCtorEq, Int.reduceNeg, Int.reduceToNat, Int.reduceEq, Int.reduceNe, Int.reduceLT, Int.reduceLE, hc7, hx11, hi10', hw12]
          refine hZ _ ?_
          repeat (with_reducible first | refine Pop.pop ?_ | refine ap_nil_i ?_ | refine ap_lp_i ?_ | refine ap_bl_next (by decide) ?_)
          refine Wk_seq ?_
          apply Wk_join1 (fun (c11 : Bool) => ⟨tab 84 (updT (updT (updT (updT (updT (updT (updT deadT 1 (.pref 1 [] 0 0)) 3 (.val (.int .i64 ((v6 : Nat) : Int)))) 4 (.pref 4 [] 0 0)) 36 (.sl false none 4 none (a0.Subs.map Sub.row))) 37 (.val (.int .i64 ((a0.Subs.length : Nat) : Int)))) 38 (.val (.int .i64 ((v6 : Nat) : Int)))) 66 (.val (.bool c11))), (upd (upd RZ 1 (.sl true none 4 (some 1) [[.val (.string a0.Name), .val (.int .i64 a0.First), .sl false none 1 none (a0.Events.map (rowI .i64)), .sl false none 4 none (a0.Subs.map Sub.row)]])) 4 (.sl true none 4 (some 1) [[.val (.string x9.Target.Type_), .val (.string x9.Target.Key), .val (.string x9.Method), .val (.int .i64 x9.Cursor)]]))⟩)
          · intro hJ14
            obtain ⟨r12, hr15, h⟩ := Option.bind_eq_some_iff.1 h
            refine Wk_regionZ fun Z hZ => ?_
            simp (config := { maxSteps := 4000000 }) only [go_sem, Nat.reduceLT, Nat.reduceEqDiff, Nat.reduceAdd, Nat.reduceBEq, Nat.reduceMul, Nat.reduceSub, reduceIte, Nat.reduceLeDiff, reduceCtorEq, Int.reduceNeg, Int.reduceToNat, Int.reduceEq, Int.reduceNe, Int.reduceLT, Int.reduceLE, hc7, hx11, hi10', hw12, hr15]
            refine RX_guard_nbool rfl (fun hc16 => ?_) (fun hc16 => ?_)
            · first | rw [if_neg (ne_true_of_eq_false hc16)] at h | simp only [hc16, hc7, Bool.or_false, Bool.or_true, Bool.false_or, Bool.true_or, Bool.and_true, Bool.true_and, Bool.and_false, Bool.false_and, Bool.not_true, Bool.not_false, Bool.false_eq_true, if_true, if_false] at h
              simp (config := { maxSteps := 4000000 }) only [go_sem, Nat.reduceLT, Nat.reduceEqDiff, Nat.reduceAdd, Nat.reduceBEq, Nat.reduceMul, Nat.reduceSub, reduceIte, Nat.reduceLeDiff, reduceCtorEq, Int.reduceNeg, Int.reduceToNat, Int.reduceEq, Int.reduceNe, Int.reduceLT, Int.reduceLE, hc7, hx11, hi10', hw12, hr15, hc16]
              refine hZ _ ?_
              repeat (with_reducible first | refine Pop.pop ?_ | refine ap_nil_i ?_ | refine ap_lp_i ?_ | refine ap_bl_next (by decide) ?_)
              refine hJ14 _ true ?_ h
              refine weak_roots ?_ ?_
              · (repeat' (first | exact weakX_nil | refine weakX_cons ?_ ?_)) <;> (first | rfl | simp only [go_sem, Nat.reduceLT, Nat.reduceEqDiff, Nat.reduceAdd, Nat.reduceBEq, Nat.reduceMul, Nat.reduceSub, reduceIte, Nat.reduceLeDiff, reduceCtorEq, Int.reduceNeg, Int.reduceToNat, Int.reduceEq, Int.reduceNe, Int.reduceLT, Int.reduceLE, Bool.or_self, List.length_set, Int.natCast_zero, Int.cast_ofNat_Int, hc7, hx11, hi10', hw12, hr15, hc16])
              · (repeat' (first | exact weakR_nil | refine weakR_cons ?_ ?_ ?_)) <;> (first | rfl | simp only [go_sem, Nat.reduceLT, Nat.reduceEqDiff, Nat.reduceAdd, Nat.reduceBEq, Nat.reduceMul, Nat.reduceSub, reduceIte, Nat.reduceLeDiff, reduceCtorEq, Int.reduceNeg, Int.reduceToNat, Int.reduceEq, Int.reduceNe, Int.reduceLT, Int.reduceLE, Bool.or_self, List.length_set, Int.natCast_zero, Int.cast_ofNat_Int, hc7, hx11, hi10', hw12, hr15, hc16])
            · first | rw [if_pos hc16] at h | simp only [hc16, hc7, Bool.or_false, Bool.or_true, Bool.false_or, Bool.true_or, Bool.and_true, Bool.true_and, Bool.and_false, Bool.false_and, Bool.not_true, Bool.not_false, Bool.false_eq_true, if_true, if_false] at h
              simp (config := { maxSteps := 4000000 }) only [go_sem, Nat.reduceLT, Nat.reduceEqDiff, Nat.reduceAdd, Nat.reduceBEq, Nat.reduceMul, Nat.reduceSub, reduceIte, Nat.reduceLeDiff, reduceCtorEq, Int.reduceNeg, Int.reduceToNat, Int.reduceEq, Int.reduceNe, Int.reduceLT, Int.reduceLE, hc7, hx11, hi10', hw12, hr15, hc16]
              refine RX_guard_dec rfl (fun hc17 => ?_) (fun hc17 => ?_)
              · have hc17d := decide_eq_true hc17
                first | rw [if_pos hc17] at h | rw [if_pos hc17d] at h | simp only [hc17d, Bool.not_true, Bool.not_false, Bool.false_eq_true, if_true, if_false] at h
                simp (config := { maxSteps := 4000000 }) only [go_sem, Nat.reduceLT, Nat.reduceEqDiff, Nat.reduceAdd, Nat.reduceBEq, Nat.reduceMul, Nat.reduceSub, reduceIte, Nat.reduceLeDiff, reduceCtorEq, Int.reduceNeg, Int.reduceToNat, Int.reduceEq, Int.reduceNe, Int.reduceLT, Int.reduceLE, hc7, hx11, hi10', hw12, hr15, hc16, hc17d]
                refine hZ _ ?_
                repeat (with_reducible first | refine Pop.pop ?_ | refine ap_nil_i ?_ | refine ap_lp_i ?_ | refine ap_bl_next (by decide) ?_)
                refine hJ14 _ true ?_ h
                refine weak_roots ?_ ?_
                · (repeat' (first | exact weakX_nil | refine weakX_cons ?_ ?_)) <;> (first | rfl | simp only [go_sem, Nat.reduceLT, Nat.reduceEqDiff, Nat.reduceAdd, Nat.reduceBEq, Nat.reduceMul, Nat.reduceSub, reduceIte, Nat.reduceLeDiff, reduceCtorEq, Int.reduceNeg, Int.reduceToNat, Int.reduceEq, Int.reduceNe, Int.reduceLT, Int.reduceLE, Bool.or_self, List.length_set, Int.natCast_zero, Int.cast_ofNat_Int, hc7, hx11, hi10', hw12, hr15, hc16, hc17d])
                · (repeat' (first | exact weakR_nil | refine weakR_cons ?_ ?_ ?_)) <;> (first | rfl | simp only [go_sem, Nat.reduceLT, Nat.reduceEqDiff, Nat.reduceAdd, Nat.reduceBEq, Nat.reduceMul, Nat.reduceSub, reduceIte, Nat.reduceLeDiff, reduceCtorEq, Int.reduceNeg, Int.reduceToNat, Int.reduceEq, Int.reduceNe, Int.reduceLT, Int.reduceLE, Bool.or_self, List.length_set, Int.natCast_zero, Int.cast_ofNat_Int, hc7, hx11, hi10', hw12, hr15, hc16, hc17d])
              · have hc17d := decide_eq_false hc17
                first | rw [if_neg hc17] at h | rw [if_neg (ne_true_of_eq_false hc17d)] at h | simp only [hc17d, Bool.not_true, Bool.not_false, Bool.false_eq_true, if_true, if_false] at h
                simp (config := { maxSteps := 4000000 }) only [go_sem, Nat.reduceLT, Nat.reduceEqDiff, Nat.reduceAdd, Nat.reduceBEq, Nat.reduceMul, Nat.reduceSub, reduceIte, Nat.reduceLeDiff, reduceCtorEq, Int.reduceNeg, Int.reduceToNat, Int.reduceEq, Int.reduceNe, Int.reduceLT, Int.reduceLE, hc7, hx11, hi10', hw12, hr15, hc16, hc17d]
                refine hZ _ ?_
                repeat (with_reducible first | refine Pop.pop ?_ | refine ap_nil_i ?_ | refine ap_lp_i ?_ | refine ap_bl_next (by decide) ?_)
                refine hJ14 _ (decide ((IntKind.i64.wrap (a0.First + ((a0.Events.length : Nat) : Int))) < x9.Cursor)) ?_ h
                refine weak_roots ?_ ?_
                · (repeat' (first | exact weakX_nil | refine weakX_cons ?_ ?_)) <;> (first | rfl | simp only [go_sem, Nat.reduceLT, Nat.reduceEqDiff, Nat.reduceAdd, Nat.reduceBEq, Nat.reduceMul, Nat.reduceSub, reduceIte, Nat.reduceLeDiff, reduceCtorEq, Int.reduceNeg, Int.reduceToNat, Int.reduceEq, Int.reduceNe, Int.reduceLT, Int.reduceLE, Bool.or_self, List.length_set, Int.natCast_zero, Int.cast_ofNat_Int, hc7, hx11, hi10', hw12, hr15, hc16, hc17d])
                · (repeat' (first | exact weakR_nil | refine weakR_cons ?_ ?_ ?_)) <;> (first | rfl | simp only [go_sem, Nat.reduceLT, Nat.reduceEqDiff, Nat.reduceAdd, Nat.reduceBEq, Nat.reduceMul, Nat.reduceSub, reduceIte, Nat.reduceLeDiff, reduceCtorEq, Int.reduceNeg, Int.reduceToNat, Int.reduceEq, Int.reduceNe, Int.reduceLT, Int.reduceLE, Bool.or_self, List.length_set, Int.natCast_zero, Int.cast_ofNat_Int, hc7, hx11, hi10', hw12, hr15, hc16, hc17d])
          · intro c11 h
            unfold streams_Valid_J2 at h
            refine Wk_cond_bool rfl (fun hc18 => ?_) (fun hc18 => ?_)
            · first | rw [if_pos hc18] at h | simp only [hc18, hc7, Bool.or_false, Bool.or_true, Bool.false_or, Bool.true_or, Bool.and_true, Bool.true_and, Bool.and_false, Bool.false_and, Bool.not_true, Bool.not_false, Bool.false_eq_true, if_true, if_false] at h
              refine Wk_seq ?_
              refine Wk_regionZ fun Z hZ => ?_
              simp (config := { maxSteps := 4000000 }) only [go_sem, Nat.reduceLT, Nat.reduceEqDiff, Nat.reduceAdd, Nat.reduceBEq, Nat.reduceMul, Nat.reduceSub, reduceIte, Nat.reduceLeDiff, reduceCtorEq, Int.reduceNeg, Int.reduceToNat, Int.reduceEq, Int.reduceNe, Int.reduceLT, Int.reduceLE, hc7, hx11, hi10', hw12, hc18]
              refine hZ _ ?_
              repeat (with_reducible first | refine Pop.pop ?_ | refine ap_nil_i ?_ | refine ap_lp_i ?_ | refine ap_bl_next (by decide) ?_)
              refine Wk_ret ?_
              repeat (with_reducible first | refine Pop.pop ?_ | refine ap_nil_i ?_ | refine ap_lp_i ?_ | refine ap_bl_next (by decide) ?_)
              simp (config := { maxSteps := 4000000 }) only [go_sem, Nat.reduceLT, Nat.reduceEqDiff, Nat.reduceAdd, Nat.reduceBEq, Nat.reduceMul, Nat.reduceSub, reduceIte, Nat.reduceLeDiff, reduceCtorEq, Int.reduceNeg, Int.reduceToNat, Int.reduceEq, Int.reduceNe, Int.reduceLT, Int.reduceLE, hc7, hx11, hi10', hw12, hc18, FinW_ret, List.length_set, List.take_length]
              obtain rfl := Option.some.inj h
              exact ⟨_, rfl, (by exact ROk.refl _), (by repeat' (first | exact PureC.val _ | refine PureC.tup ?_ | refine PureC.agg ?_ | exact pure_nil | refine pure_cons ?_ ?_))⟩
            · first | rw [if_neg (ne_true_of_eq_false hc18)] at h | simp only [hc18, hc7, Bool.or_false, Bool.or_true, Bool.false_or, Bool.true_or, Bool.and_true, Bool.true_and, Bool.and_false, Bool.false_and, Bool.not_true, Bool.not_false, Bool.false_eq_true, if_true, if_false] at h
              refine Wk_skip ?_
              repeat (with_reducible first | refine Pop.pop ?_ | refine ap_nil_i ?_ | refine ap_lp_i ?_ | refine ap_bl_next (by decide) ?_)
              unfold streams_Valid_J4 at h
              apply Wk_join1 (fun (c15 : Bool) => ⟨tab 84 (updT (updT (updT (updT (updT deadT 1 (.pref 1 [] 0 0)) 36 (.sl false none 4 none (a0.Subs.map Sub.row))) 37 (.val (.int .i64 ((a0.Subs.length : Nat) : Int)))) 38 (.val (.int .i64 ((v6 : Nat) : Int)))) 82 (.val (.bool c15))), (upd RZ 1 (.sl true none 4 (some 1) [[.val (.string a0.Name), .val (.int .i64 a0.First), .sl false none 1 none (a0.Events.map (rowI .i64)), .sl false none 4 none (a0.Subs.map Sub.row)]]))⟩)
              · intro hJ19
                refine Wk_regionD fun Z hZ => ?_
                simp (config := { maxSteps := 4000000 }) only [go_sem, Nat.reduceLT, Nat.reduceEqDiff, Nat.reduceAdd, Nat.reduceBEq, Nat.reduceMul, Nat.reduceSub, reduceIte, Nat.reduceLeDiff, reduceCtorEq, Int.reduceNeg, Int.reduceToNat, Int.reduceEq, Int.reduceNe, Int.reduceLT, Int.reduceLE, hc7, hx11, hi10', hw12, hc18]
                repeat' ((with_reducible refine and_bar ?_ ?_); kernel_rfl)
                refine RX_guard_dec rfl (fun hc20 => ?_) (fun hc20 => ?_)
                · have hc20d := decide_eq_true hc20
                  first | rw [if_pos hc20] at h | rw [if_pos hc20d] at h | simp only [hc20d, Bool.not_true, Bool.not_false, Bool.false_eq_true, if_true, if_false] at h
                  obtain ⟨x16, hb21, hx22, h⟩ := gx_some h
                  obtain ⟨r17, hr23, h⟩ := Option.bind_eq_some_iff.1 h
                  simp (config := { maxSteps := 4000000 }) only [go_sem, Nat.reduceLT, Nat.reduceEqDiff, Nat.reduceAdd, Nat.reduceBEq, Nat.reduceMul, Nat.reduceSub, reduceIte, Nat.reduceLeDiff, reduceCtorEq, Int.reduceNeg, Int.reduceToNat, Int.reduceEq, Int.reduceNe, Int.reduceLT, Int.reduceLE, hc7, hx11, hi10', hw12, hc18, hc20d, hb21, hx22, hr23]
                  repeat' ((with_reducible refine and_bar ?_ ?_); kernel_rfl)
                  refine hZ _ (by kernel_rfl) ?_
                  repeat (with_reducible first | refine Pop.pop ?_ | refine ap_nil_i ?_ | refine ap_lp_i ?_ | refine ap_bl_next (by decide) ?_)
                  refine hJ19 _ (decide (0 ≤ r17)) ?_ h
                  refine weak_roots ?_ ?_
                  · (repeat' (first | exact weakX_nil | refine weakX_cons ?_ ?_)) <;> (first | rfl | simp only [go_sem, Nat.reduceLT, Nat.reduceEqDiff, Nat.reduceAdd, Nat.reduceBEq, Nat.reduceMul, Nat.reduceSub, reduceIte, Nat.reduceLeDiff, reduceCtorEq, Int.reduceNeg, Int.reduceToNat, Int.reduceEq, Int.reduceNe, Int.reduceLT, Int.reduceLE, Bool.or_self, List.length_set, Int.natCast_zero, Int.cast_ofNat_Int, hc7, hx11, hi10', hw12, hc18, hc20d, hb21, hx22, hr23])
                  · (repeat' (first | exact weakR_nil | refine weakR_cons ?_ ?_ ?_)) <;> (first | rfl | simp only [go_sem, Nat.reduceLT, Nat.reduceEqDiff, Nat.reduceAdd, Nat.reduceBEq, Nat.reduceMul, Nat.reduceSub, reduceIte, Nat.reduceLeDiff, reduceCtorEq, Int.reduceNeg, Int.reduceToNat, Int.reduceEq, Int.reduceNe, Int.reduceLT, Int.reduceLE, Bool.or_self, List.length_set, Int.natCast_zero, Int.cast_ofNat_Int, hc7, hx11, hi10', hw12, hc18, hc20d, hb21, hx22, hr23])
                · have hc20d := decide_eq_false hc20
                  first | rw [if_neg hc20] at h | rw [if_neg (ne_true_of_eq_false hc20d)] at h | simp only [hc20d, Bool.not_true, Bool.not_false, Bool.false_eq_true, if_true, if_false] at h
                  simp (config := { maxSteps := 4000000 }) only [go_sem, Nat.reduceLT, Nat.reduceEqDiff, Nat.reduceAdd, Nat.reduceBEq, Nat.reduceMul, Nat.reduceSub, reduceIte, Nat.reduceLeDiff, reduceCtorEq, Int.reduceNeg, Int.reduceToNat, Int.reduceEq, Int.reduceNe, Int.reduceLT, Int.reduceLE, hc7, hx11, hi10', hw12, hc18, hc20d]
                  repeat' ((with_reducible refine and_bar ?_ ?_); kernel_rfl)
                  refine hZ _ (by kernel_rfl) ?_
                  repeat (with_reducible first | refine Pop.pop ?_ | refine ap_nil_i ?_ | refine ap_lp_i ?_ | refine ap_bl_next (by decide) ?_)
                  refine hJ19 _ false ?_ h
                  refine weak_roots ?_ ?_
                  · (repeat' (first | exact weakX_nil | refine weakX_cons ?_ ?_)) <;> (first | rfl | simp only [go_sem, Nat.reduceLT, Nat.reduceEqDiff, Nat.reduceAdd, Nat.reduceBEq, Nat.reduceMul, Nat.reduceSub, reduceIte, Nat.reduceLeDiff, reduceCtorEq, Int.reduceNeg, Int.reduceToNat, Int.reduceEq, Int.reduceNe, Int.reduceLT, Int.reduceLE, Bool.or_self, List.length_set, Int.natCast_zero, Int.cast_ofNat_Int, hc7, hx11, hi10', hw12, hc18, hc20d])
                  · (repeat' (first | exact weakR_nil | refine weakR_cons ?_ ?_ ?_)) <;> (first | rfl | simp only [go_sem, Nat.reduceLT, Nat.reduceEqDiff, Nat.reduceAdd, Nat.reduceBEq, Nat.reduceMul, Nat.reduceSub, reduceIte, Nat.reduceLeDiff, reduceCtorEq, Int.reduceNeg, Int.reduceToNat, Int.reduceEq, Int.reduceNe, Int.reduceLT, Int.reduceLE, Bool.or_self, List.length_set, Int.natCast_zero, Int.cast_ofNat_Int, hc7, hx11, hi10', hw12, hc18, hc20d])
              · intro c15 h
                unfold streams_Valid_J3 at h
                refine Wk_cond_bool rfl (fun hc24 => ?_) (fun hc24 => ?_)
                · first | rw [if_pos hc24] at h | simp only [hc24, hc7, hc18, Bool.or_false, Bool.or_true, Bool.false_or, Bool.true_or, Bool.and_true, Bool.true_and, Bool.and_false, Bool.false_and, Bool.not_true, Bool.not_false, Bool.false_eq_true, if_true, if_false] at h
                  refine Wk_seq ?_
                  refine Wk_regionZ fun Z hZ => ?_
                  simp (config := { maxSteps := 4000000 }) only [go_sem, Nat.reduceLT, Nat.reduceEqDiff, Nat.reduceAdd, Nat.reduceBEq, Nat.reduceMul, Nat.reduceSub, reduceIte, Nat.reduceLeDiff, reduceCtorEq, Int.reduceNeg, Int.reduceToNat, Int.reduceEq, Int.reduceNe, Int.reduceLT, Int.reduceLE, hc7, hx11, hi10', hw12, hc18, hc24]
                  refine hZ _ ?_
                  repeat (with_reducible first | refine Pop.pop ?_ | refine ap_nil_i ?_ | refine ap_lp_i ?_ | refine ap_bl_next (by decide) ?_)
                  refine Wk_ret ?_
                  repeat (with_reducible first | refine Pop.pop ?_ | refine ap_nil_i ?_ | refine ap_lp_i ?_ | refine ap_bl_next (by decide) ?_)
                  simp (config := { maxSteps := 4000000 }) only [go_sem, Nat.reduceLT, Nat.reduceEqDiff, Nat.reduceAdd, Nat.reduceBEq, Nat.reduceMul, Nat.reduceSub, reduceIte, Nat.reduceLeDiff, reduceCtorEq, Int.reduceNeg, Int.reduceToNat, Int.reduceEq, Int.reduceNe, Int.reduceLT, Int.reduceLE, hc7, hx11, hi10', hw12, hc18, hc24, FinW_ret, List.length_set, List.take_length]
                  obtain rfl := Option.some.inj h
                  exact ⟨_, rfl, (by exact ROk.refl _), (by repeat' (first | exact PureC.val _ | refine PureC.tup ?_ | refine PureC.agg ?_ | exact pure_nil | refine pure_cons ?_ ?_))⟩
                · first | rw [if_neg (ne_true_of_eq_false hc24)] at h | simp only [hc24, hc7, hc18, Bool.or_false, Bool.or_true, Bool.false_or, Bool.true_or, Bool.and_true, Bool.true_and, Bool.and_false, Bool.false_and, Bool.not_true, Bool.not_false, Bool.false_eq_true, if_true, if_false] at h
                  refine Wk_skip ?_
                  repeat (with_reducible first | refine Pop.pop ?_ | refine ap_nil_i ?_ | refine ap_lp_i ?_ | refine ap_bl_next (by decide) ?_)
                  refine Wk_regionZ fun Z hZ => ?_
                  simp (config := { maxSteps := 4000000 }) only [go_sem, Nat.reduceLT, Nat.reduceEqDiff, Nat.reduceAdd, Nat.reduceBEq, Nat.reduceMul, Nat.reduceSub, reduceIte, Nat.reduceLeDiff, reduceCtorEq, Int.reduceNeg, Int.reduceToNat, Int.reduceEq, Int.reduceNe, Int.reduceLT, Int.reduceLE, hc7, hx11, hi10', hw12, hc18, hc24]
                  refine hZ _ ?_
                  repeat (with_reducible first | refine Pop.pop ?_ | refine ap_nil_i ?_ | refine ap_lp_i ?_ | refine ap_bl_next (by decide) ?_)
                  first | refine ⟨(), ?_, h⟩ | refine ⟨hi10', (), ?_, h⟩
                  refine weak_roots ?_ ?_
                  · (repeat' (first | exact weakX_nil | refine weakX_cons ?_ ?_)) <;> (first | rfl | simp only [go_sem, Nat.reduceLT, Nat.reduceEqDiff, Nat.reduceAdd, Nat.reduceBEq, Nat.reduceMul, Nat.reduceSub, reduceIte, Nat.reduceLeDiff, reduceCtorEq, Int.reduceNeg, Int.reduceToNat, Int.reduceEq, Int.reduceNe, Int.reduceLT, Int.reduceLE, Bool.or_self, List.length_set, Int.natCast_zero, Int.cast_ofNat_Int, hc7, hx11, hi10', hw12, hc18, hc24])
                  · (repeat' (first | exact weakR_nil | refine weakR_cons ?_ ?_ ?_)) <;> (first | rfl | simp only [go_sem, Nat.reduceLT, Nat.reduceEqDiff, Nat.reduceAdd, Nat.reduceBEq, Nat.reduceMul, Nat.reduceSub, reduceIte, Nat.reduceLeDiff, reduceCtorEq, Int.reduceNeg, Int.reduceToNat, Int.reduceEq, Int.reduceNe, Int.reduceLT, Int.reduceLE, Bool.or_self, List.length_set, Int.natCast_zero, Int.cast_ofNat_Int, hc7, hx11, hi10', hw12, hc18, hc24])
        · rw [hd13] at h
          simp only [streams_Valid_L1] at h
          refine Wk_seq ?_
          refine Wk_regionZ fun Z hZ => ?_
          simp (config := { maxSteps := 4000000 }) only [go_sem, Nat.reduceLT, Nat.reduceEqDiff, Nat.reduceAdd, Nat.reduceBEq, Nat.reduceMul, Nat.reduceSub, reduceIte, Nat.reduceLeDiff, reduceCtorEq, Int.reduceNeg, Int.reduceToNat, Int.reduceEq, Int.reduceNe, Int.reduceLT, Int.reduceLE, hc7, hi10']
          refine hZ _ ?_
          repeat (with_reducible first | refine Pop.pop ?_ | refine ap_nil_i ?_ | refine ap_lp_i ?_ | refine ap_bl_next (by decide) ?_)
          refine Wk_seq ?_
          try simp only [Int.ofNat_lt, hi10', if_true, if_false] at h
          refine Wk_cond_f rfl ?_
          refine Wk_exit ?_
          repeat (with_reducible first | refine Pop.pop ?_ | refine ap_nil_i ?_ | refine ap_lp_i ?_ | refine ap_bl_next (by decide) ?_)
          refine Wk_seq ?_
          refine Wk_regionZ fun Z hZ => ?_
          simp (config := { maxSteps := 4000000 }) only [go_sem, Nat.reduceLT, Nat.reduceEqDiff, Nat.reduceAdd, Nat.reduceBEq, Nat.reduceMul, Nat.reduceSub, reduceIte, Nat.reduceLeDiff, reduceCtorEq, Int.reduceNeg, Int.reduceToNat, Int.reduceEq, Int.reduceNe, Int.reduceLT, Int.reduceLE, hc7, hi10']
          refine hZ _ ?_
          repeat (with_reducible first | refine Pop.pop ?_ | refine ap_nil_i ?_ | refine ap_lp_i ?_ | refine ap_bl_next (by decide) ?_)
          refine Wk_ret ?_
          repeat (with_reducible first | refine Pop.pop ?_ | refine ap_nil_i ?_ | refine ap_lp_i ?_ | refine ap_bl_next (by decide) ?_)
          simp (config := { maxSteps := 4000000 }) only [go_sem, Nat.reduceLT, Nat.reduceEqDiff, Nat.reduceAdd, Nat.reduceBEq, Nat.reduceMul, Nat.reduceSub, reduceIte, Nat.reduceLeDiff, reduceCtorEq, Int.reduceNeg, Int.reduceToNat, Int.reduceEq, Int.reduceNe, Int.reduceLT, Int.reduceLE, hc7, hi10', FinW_ret, List.length_set, List.take_length]
          obtain rfl := Option.some.inj h
          exact ⟨_, rfl, (by exact ROk.refl _), (by repeat' (first | exact PureC.val _ | refine PureC.tup ?_ | refine PureC.agg ?_ | exact pure_nil | refine pure_cons ?_ ?_))⟩
def fs_streams_Valid (N : Nat) : FnS := { own := [], pure := true, fn := fun cs => match cs with
  | [c0] => (Topic.decA c0).bind fun qc0 => (streams_Valid N qc0).map fun r => .val (.bool r)
  | _ => none }
theorem fs_streams_Valid_own (N : Nat) : (fs_streams_Valid N).own = [] := rfl
theorem fs_streams_Valid_pure (N : Nat) : (fs_streams_Valid N).pure = true := rfl
attribute [go_sem] fs_streams_Valid fs_streams_Valid_own fs_streams_Valid_pure
theorem fs_streams_Valid_ok (N : Nat) : FSOk Try.prog 19 (fs_streams_Valid N) := by
  refine ⟨fun cs r h => ?_, fun h => by cases h⟩
  simp only [fs_streams_Valid] at h
  split at h
  · simp only [Option.bind_eq_some_iff, Option.map_eq_some_iff] at h
    obtain ⟨q0, h0, r', hr, rfl⟩ := h
    exact ((w_streams_Valid N q0 r' hr).args (LeL.cons (Topic.decA_le h0) (LeL.nil)))
  · cases h

end Go.Proofs.Ytpkfhjbgnpdgcaa
end

section
set_option linter.unusedSimpArgs false
set_option linter.unusedVariables false
set_option maxRecDepth 100000
namespace Go.Proofs.Ytpkfhjbgnpdgcaa
open Go Go.Proofs Go.Abs
noncomputable def E_streams_find (N : Nat) : Env := { T := tiOf Try.prog, G := fun d f => if d = 22 ∧ f = 33 then some (fs_streams_compare N) else if d = 41 ∧ f = 33 then some (fs_streams_compare N) else none, F := fun d => none }
theorem E_streams_find_F (N : Nat) (d : Nat) : (E_streams_find N).F d = none := rfl
theorem E_streams_find_T (N : Nat) : (E_streams_find N).T = tiOf Try.prog := rfl
theorem E_streams_find_G0 (N : Nat) : (E_streams_find N).G 22 33 = some (fs_streams_compare N) := rfl
theorem E_streams_find_G1 (N : Nat) : (E_streams_find N).G 41 33 = some (fs_streams_compare N) := rfl
theorem E_streams_find_ok (N : Nat) : GOk Try.prog { T := tiOf Try.prog, G := (E_streams_find N).G } := by
  intro d f fs hfs
  simp only [E_streams_find] at hfs
  by_cases hc : d = 22 ∧ f = 33
  · rw [if_pos hc] at hfs; obtain ⟨rfl, rfl⟩ := hc; obtain rfl := Option.some.inj hfs; exact fs_streams_compare_ok N
  rw [if_neg hc] at hfs
  by_cases hc : d = 41 ∧ f = 33
  · rw [if_pos hc] at hfs; obtain ⟨rfl, rfl⟩ := hc; obtain rfl := Option.some.inj hfs; exact fs_streams_compare_ok N
  rw [if_neg hc] at hfs
  cases hfs
theorem fo_streams_find : FunOk Try.prog 30 Try.f30 Try.f30.body.get! := ⟨Try.func30, rfl, by decide, by kernel_rfl⟩
attribute [go_sem] E_streams_find_T E_streams_find_F E_streams_find_G0 E_streams_find_G1
set_option maxHeartbeats 4000000 in
theorem w_streams_find (N : Nat) (a0 : Topic) (a1 : Ref) (a2 : ByteArray) (r : Int × Bool) (h : streams_find N a0 a1 a2 = some r) : Con Try.prog 30 [] true [.agg [.val (.string a0.Name), .val (.int .i64 a0.First), .sl false none 1 none (a0.Events.map (rowI .i64)), .sl false none 4 none (a0.Subs.map Sub.row)], .agg [.val (.string a1.Type_), .val (.string a1.Key)], .val (.string a2)] (.tup [.val (.int .i64 r.1), .val (.bool r.2)]) := by
  refine fun_ok3 (E := E_streams_find N) (tiOf_ok Try.prog (E_streams_find N).G) (E_streams_find_ok N) mix fo_streams_find (Nat.le_of_ble_eq_true rfl) ?_
  intro _
  rw [entry_tab (by simp)]
  rw [show entryF [] [.agg [.val (.string a0.Name), .val (.int .i64 a0.First), .sl false none 1 none (a0.Events.map (rowI .i64)), .sl false none 4 none (a0.Subs.map Sub.row)], .agg [.val (.string a1.Type_), .val (.string a1.Key)], .val (.string a2)] = (updT (updT (updT deadT 0 (.agg [.val (.string a0.Name), .val (.int .i64 a0.First), .sl false none 1 none (a0.Events.map (rowI .i64)), .sl false none 4 none (a0.Subs.map Sub.row)])) 1 (.agg [.val (.string a1.Type_), .val (.string a1.Key)])) 2 (.val (.string a2))) from by funext t; match t with | 0 => rfl | 1 => rfl | 2 => rfl | t + 3 => rfl]
  apply Wk_start
  simp only [Try.f30, Option.get!, R0_RZ]
  unfold streams_find at h
  refine Wk_seq ?_
  refine Wk_regionZ fun Z hZ => ?_
  simp (config := { maxSteps := 4000000 }) only [go_sem, Nat.reduceLT, Nat.reduceEqDiff, Nat.reduceAdd, Nat.reduceBEq, Nat.reduceMul, Nat.reduceSub, reduceIte, Nat.reduceLeDiff, reduceCtorEq, Int.reduceNeg, Int.reduceToNat, Int.reduceEq, Int.reduceNe, Int.reduceLT, Int.reduceLE]
  refine hZ _ ?_
  repeat (with_reducible first | refine Pop.pop ?_ | refine ap_nil_i ?_ | refine ap_lp_i ?_ | refine ap_bl_next (by decide) ?_)
  refine Wk_seq ?_
  refine Wk_regionZ fun Z hZ => ?_
  simp (config := { maxSteps := 4000000 }) only [go_sem, Nat.reduceLT, Nat.reduceEqDiff, Nat.reduceAdd, Nat.reduceBEq, Nat.reduceMul, Nat.reduceSub, reduceIte, Nat.reduceLeDiff, reduceCtorEq, Int.reduceNeg, Int.reduceToNat, Int.reduceEq, Int.reduceNe, Int.reduceLT, Int.reduceLE]
  refine hZ _ ?_
  repeat (with_reducible first | refine Pop.pop ?_ | refine ap_nil_i ?_ | refine ap_lp_i ?_ | refine ap_bl_next (by decide) ?_)
  apply Wk_join1 (fun (v9 : Int) => ⟨tab 44 (updT (updT (updT (updT deadT 2 (.val (.string a2))) 3 (.pref 3 [] 0 0)) 4 (.pref 4 [] 0 0)) 8 (.val (.int .i64 v9))), (upd (upd RZ 3 (.sl true none 4 (some 1) [[.val (.string a0.Name), .val (.int .i64 a0.First), .sl false none 1 none (a0.Events.map (rowI .i64)), .sl false none 4 none (a0.Subs.map Sub.row)]])) 4 (.sl true none 2 (some 1) [[.val (.string a1.Type_), .val (.string a1.Key)]]))⟩)
  · intro hJ1
    refine Wk_block ?_
    refine Wk_real fun hreal3 => ?_
    have hl2 := hreal3.cell 3 3 (by simp only [go_sem, Nat.reduceLT, Nat.reduceEqDiff, Nat.reduceAdd, Nat.reduceBEq, Nat.reduceMul, Nat.reduceSub, reduceIte, Nat.reduceLeDiff, reduceCtorEq, Int.reduceNeg, Int.reduceToNat, Int.reduceEq, Int.reduceNe, Int.reduceLT, Int.reduceLE, Bool.or_self, List.length_set, Int.natCast_zero, Int.cast_ofNat_Int]; rfl) rfl
    rw [List.length_map] at hl2
    refine Wk_range (fun (v2 : Nat) (b : Unit) => ⟨tab 44 (updT (updT (updT (updT deadT 2 (.val (.string a2))) 3 (.pref 3 [] 0 0)) 4 (.pref 4 [] 0 0)) 8 (.val (.int .i64 ((v2 : Nat) : Int)))), (upd (upd RZ 3 (.sl true none 4 (some 1) [[.val (.string a0.Name), .val (.int .i64 a0.First), .sl false none 1 none (a0.Events.map (rowI .i64)), .sl false none 4 none (a0.Subs.map Sub.row)]])) 4 (.sl true none 2 (some 1) [[.val (.string a1.Type_), .val (.string a1.Key)]]))⟩) () h ?_ ?_
    · refine weak_roots ?_ ?_
      · (repeat' (first | exact weakX_nil | refine weakX_cons ?_ ?_)) <;> (first | rfl | simp only [go_sem, Nat.reduceLT, Nat.reduceEqDiff, Nat.reduceAdd, Nat.reduceBEq, Nat.reduceMul, Nat.reduceSub, reduceIte, Nat.reduceLeDiff, reduceCtorEq, Int.reduceNeg, Int.reduceToNat, Int.reduceEq, Int.reduceNe, Int.reduceLT, Int.reduceLE, Bool.or_self, List.length_set, Int.natCast_zero, Int.cast_ofNat_Int])
      · (repeat' (first | exact weakR_nil | refine weakR_cons ?_ ?_ ?_)) <;> (first | rfl | simp only [go_sem, Nat.reduceLT, Nat.reduceEqDiff, Nat.reduceAdd, Nat.reduceBEq, Nat.reduceMul, Nat.reduceSub, reduceIte, Nat.reduceLeDiff, reduceCtorEq, Int.reduceNeg, Int.reduceToNat, Int.reduceEq, Int.reduceNe, Int.reduceLT, Int.reduceLE, Bool.or_self, List.length_set, Int.natCast_zero, Int.cast_ofNat_Int])
    · rintro v2 ⟨⟩ hi4 h -
      rcases drop_cases a0.Subs v2 hi4 with ⟨x6, hi4', hx5, hd7⟩ | ⟨hi4', _, hd7⟩
      · rw [hd7] at h
        simp only [streams_find_L1] at h
        have hw6 := wrap_succ hi4' hl2
        refine Wk_seq ?_
        refine Wk_seq ?_
        try simp only [Int.ofNat_lt, hi4', if_true, if_false] at h
        try rw [gx_nat hx5] at h
        obtain ⟨r10, hr8, h⟩ := Option.bind_eq_some_iff.1 h
        refine Wk_regionD fun Z hZ => ?_
        simp (config := { maxSteps := 4000000 }) only [go_sem, Nat.reduceLT, Nat.reduceEqDiff, Nat.reduceAdd, Nat.reduceBEq, Nat.reduceMul, Nat.reduceSub, reduceIte, Nat.reduceLeDiff, reduceCtorEq, Int.reduceNeg, Int.reduceToNat, Int.reduceEq, Int.reduceNe, Int.reduceLT, Int.reduceLE, hx5, hi4', hw6, hr8]
        repeat' ((with_reducible refine and_bar ?_ ?_); kernel_rfl)
        refine hZ _ (by kernel_rfl) ?_
        repeat (with_reducible first | refine Pop.pop ?_ | refine ap_nil_i ?_ | refine ap_lp_i ?_ | refine ap_bl_next (by decide) ?_)
        refine Wk_cond_dec rfl (fun hc9 => ?_) (fun hc9 => ?_)
        · have hc9d := decide_eq_true hc9
          first | rw [if_pos hc9] at h | rw [if_pos hc9d] at h | simp only [hc9d, Bool.not_true, Bool.not_false, Bool.false_eq_true, if_true, if_false] at h
          refine Wk_skip ?_
          repeat (with_reducible first | refine Pop.pop ?_ | refine ap_nil_i ?_ | refine ap_lp_i ?_ | refine ap_bl_next (by decide) ?_)
          refine Wk_block ?_
          refine Wk_regionZ fun Z hZ => ?_
          simp (config := { maxSteps := 4000000 }) only [go_sem, Nat.reduceLT, Nat.reduceEqDiff, Nat.reduceAdd, Nat.reduceBEq, Nat.reduceMul, Nat.reduceSub, reduceIte, Nat.reduceLeDiff, reduceCtorEq, Int.reduceNeg, Int.reduceToNat, Int.reduceEq, Int.reduceNe, Int.reduceLT, Int.reduceLE, hx5, hi4', hw6, hr8, hc9d]
          refine hZ _ ?_
          repeat (with_reducible first | refine Pop.pop ?_ | refine ap_nil_i ?_ | refine ap_lp_i ?_ | refine ap_bl_next (by decide) ?_)
          first | refine ⟨(), ?_, h⟩ | refine ⟨hi4', (), ?_, h⟩
          refine weak_roots ?_ ?_
          · (repeat' (first | exact weakX_nil | refine weakX_cons ?_ ?_)) <;> (first | rfl | simp only [go_sem, Nat.reduceLT, Nat.reduceEqDiff, Nat.reduceAdd, Nat.reduceBEq, Nat.reduceMul, Nat.reduceSub, reduceIte, Nat.reduceLeDiff, reduceCtorEq, Int.reduceNeg, Int.reduceToNat, Int.reduceEq, Int.reduceNe, Int.reduceLT, Int.reduceLE, Bool.or_self, List.length_set, Int.natCast_zero, Int.cast_ofNat_Int, hx5, hi4', hw6, hr8, hc9d])
          · (repeat' (first | exact weakR_nil | refine weakR_cons ?_ ?_ ?_)) <;> (first | rfl | simp only [go_sem, Nat.reduceLT, Nat.reduceEqDiff, Nat.reduceAdd, Nat.reduceBEq, Nat.reduceMul, Nat.reduceSub, reduceIte, Nat.reduceLeDiff, reduceCtorEq, Int.reduceNeg, Int.reduceToNat, Int.reduceEq, Int.reduceNe, Int.reduceLT, Int.reduceLE, Bool.or_self, List.length_set, Int.natCast_zero, Int.cast_ofNat_Int, hx5, hi4', hw6, hr8, hc9d])
        · have hc9d := decide_eq_false hc9
          first | rw [if_neg hc9] at h | rw [if_neg (ne_true_of_eq_false hc9d)] at h | simp only [hc9d, Bool.not_true, Bool.not_false, Bool.false_eq_true, if_true, if_false] at h
          refine Wk_exit ?_
          repeat (with_reducible first | refine Pop.pop ?_ | refine ap_nil_i ?_ | refine ap_lp_i ?_ | refine ap_bl_next (by decide) ?_)
          refine hJ1 _ ((v2 : Nat) : Int) ?_ h
          refine weak_roots ?_ ?_
          · (repeat' (first | exact weakX_nil | refine weakX_cons ?_ ?_)) <;> (first | rfl | simp only [go_sem, Nat.reduceLT, Nat.reduceEqDiff, Nat.reduceAdd, Nat.reduceBEq, Nat.reduceMul, Nat.reduceSub, reduceIte, Nat.reduceLeDiff, reduceCtorEq, Int.reduceNeg, Int.reduceToNat, Int.reduceEq, Int.reduceNe, Int.reduceLT, Int.reduceLE, Bool.or_self, List.length_set, Int.natCast_zero, Int.cast_ofNat_Int, hx5, hi4', hw6, hr8, hc9d])
          · (repeat' (first | exact weakR_nil | refine weakR_cons ?_ ?_ ?_)) <;> (first | rfl | simp only [go_sem, Nat.reduceLT, Nat.reduceEqDiff, Nat.reduceAdd, Nat.reduceBEq, Nat.reduceMul, Nat.reduceSub, reduceIte, Nat.reduceLeDiff, reduceCtorEq, Int.reduceNeg, Int.reduceToNat, Int.reduceEq, Int.reduceNe, Int.reduceLT, Int.reduceLE, Bool.or_self, List.length_set, Int.natCast_zero, Int.cast_ofNat_Int, hx5, hi4', hw6, hr8, hc9d])
      · rw [hd7] at h
        simp only [streams_find_L1] at h
        refine Wk_seq ?_
        refine Wk_seq ?_
        try simp only [Int.ofNat_lt, hi4', if_true, if_false] at h
        refine Wk_regionD fun Z hZ => ?_
        simp (config := { maxSteps := 4000000 }) only [go_sem, Nat.reduceLT, Nat.reduceEqDiff, Nat.reduceAdd, Nat.reduceBEq, Nat.reduceMul, Nat.reduceSub, reduceIte, Nat.reduceLeDiff, reduceCtorEq, Int.reduceNeg, Int.reduceToNat, Int.reduceEq, Int.reduceNe, Int.reduceLT, Int.reduceLE, hi4']
        repeat' ((with_reducible refine and_bar ?_ ?_); kernel_rfl)
        refine hZ _ (by kernel_rfl) ?_
        repeat (with_reducible first | refine Pop.pop ?_ | refine ap_nil_i ?_ | refine ap_lp_i ?_ | refine ap_bl_next (by decide) ?_)
        refine Wk_cond_f rfl ?_
        first | rw [if_pos (rfl : true = true)] at h | rw [if_neg Bool.false_ne_true] at h | skip
        refine Wk_exit ?_
        repeat (with_reducible first | refine Pop.pop ?_ | refine ap_nil_i ?_ | refine ap_lp_i ?_ | refine ap_bl_next (by decide) ?_)
        refine hJ1 _ ((v2 : Nat) : Int) ?_ h
        refine weak_roots ?_ ?_
        · (repeat' (first | exact weakX_nil | refine weakX_cons ?_ ?_)) <;> (first | rfl | simp only [go_sem, Nat.reduceLT, Nat.reduceEqDiff, Nat.reduceAdd, Nat.reduceBEq, Nat.reduceMul, Nat.reduceSub, reduceIte, Nat.reduceLeDiff, reduceCtorEq, Int.reduceNeg, Int.reduceToNat, Int.reduceEq, Int.reduceNe, Int.reduceLT, Int.reduceLE, Bool.or_self, List.length_set, Int.natCast_zero, Int.cast_ofNat_Int, hi4'])
        · (repeat' (first | exact weakR_nil | refine weakR_cons ?_ ?_ ?_)) <;> (first | rfl | simp only [go_sem, Nat.reduceLT, Nat.reduceEqDiff, Nat.reduceAdd, Nat.reduceBEq, Nat.reduceMul, Nat.reduceSub, reduceIte, Nat.reduceLeDiff, reduceCtorEq, Int.reduceNeg, Int.reduceToNat, Int.reduceEq, Int.reduceNe, Int.reduceLT, Int.reduceLE, Bool.or_self, List.length_set, Int.natCast_zero, Int.cast_ofNat_Int, hi4'])
  · intro v9 h
    unfold streams_find_J1 at h
    refine Wk_seq ?_
    refine Wk_regionD fun Z hZ => ?_
    simp (config := { maxSteps := 4000000 }) only [go_sem, Nat.reduceLT, Nat.reduceEqDiff, Nat.reduceAdd, Nat.reduceBEq, Nat.reduceMul, Nat.reduceSub, reduceIte, Nat.reduceLeDiff, reduceCtorEq, Int.reduceNeg, Int.reduceToNat, Int.reduceEq, Int.reduceNe, Int.reduceLT, Int.reduceLE]
    repeat' ((with_reducible refine and_bar ?_ ?_); kernel_rfl)
    refine RX_guard_dec rfl (fun hc10 => ?_) (fun hc10 => ?_)
    · have hc10d := decide_eq_true hc10
      first | rw [if_pos hc10] at h | rw [if_pos hc10d] at h | simp only [hc10d, Bool.not_true, Bool.not_false, Bool.false_eq_true, if_true, if_false] at h
      obtain ⟨x11, hb11, hx12, h⟩ := gx_some h
      obtain ⟨r12, hr13, h⟩ := Option.bind_eq_some_iff.1 h
      simp (config := { maxSteps := 4000000 }) only [go_sem, Nat.reduceLT, Nat.reduceEqDiff, Nat.reduceAdd, Nat.reduceBEq, Nat.reduceMul, Nat.reduceSub, reduceIte, Nat.reduceLeDiff, reduceCtorEq, Int.reduceNeg, Int.reduceToNat, Int.reduceEq, Int.reduceNe, Int.reduceLT, Int.reduceLE, hc10d, hb11, hx12, hr13]
      repeat' ((with_reducible refine and_bar ?_ ?_); kernel_rfl)
      refine hZ _ (by kernel_rfl) ?_
      repeat (with_reducible first | refine Pop.pop ?_ | refine ap_nil_i ?_ | refine ap_lp_i ?_ | refine ap_bl_next (by decide) ?_)
      refine Wk_ret ?_
      repeat (with_reducible first | refine Pop.pop ?_ | refine ap_nil_i ?_ | refine ap_lp_i ?_ | refine ap_bl_next (by decide) ?_)
      simp (config := { maxSteps := 4000000 }) only [go_sem, Nat.reduceLT, Nat.reduceEqDiff, Nat.reduceAdd, Nat.reduceBEq, Nat.reduceMul, Nat.reduceSub, reduceIte, Nat.reduceLeDiff, reduceCtorEq, Int.reduceNeg, Int.reduceToNat, Int.reduceEq, Int.reduceNe, Int.reduceLT, Int.reduceLE, hc10d, hb11, hx12, hr13, FinW_ret, List.length_set, List.take_length]
      obtain rfl := Option.some.inj h
      exact ⟨_, rfl, (by exact ROk.refl _), (by repeat' (first | exact PureC.val _ | refine PureC.tup ?_ | refine PureC.agg ?_ | exact pure_nil | refine pure_cons ?_ ?_))⟩
    · have hc10d := decide_eq_false hc10
      first | rw [if_neg hc10] at h | rw [if_neg (ne_true_of_eq_false hc10d)] at h | simp only [hc10d, Bool.not_true, Bool.not_false, Bool.false_eq_true, if_true, if_false] at h
      simp (config := { maxSteps := 4000000 }) only [go_sem, Nat.reduceLT, Nat.reduceEqDiff, Nat.reduceAdd, Nat.reduceBEq, Nat.reduceMul, Nat.reduceSub, reduceIte, Nat.reduceLeDiff, reduceCtorEq, Int.reduceNeg, Int.reduceToNat, Int.reduceEq, Int.reduceNe, Int.reduceLT, Int.reduceLE, hc10d]
      repeat' ((with_reducible refine and_bar ?_ ?_); kernel_rfl)
      refine hZ _ (by kernel_rfl) ?_
      repeat (with_reducible first | refine Pop.pop ?_ | refine ap_nil_i ?_ | refine ap_lp_i ?_ | refine ap_bl_next (by decide) ?_)
      refine Wk_ret ?_
      repeat (with_reducible first | refine Pop.pop ?_ | refine ap_nil_i ?_ | refine ap_lp_i ?_ | refine ap_bl_next (by decide) ?_)
      simp (config := { maxSteps := 4000000 }) only [go_sem, Nat.reduceLT, Nat.reduceEqDiff, Nat.reduceAdd, Nat.reduceBEq, Nat.reduceMul, Nat.reduceSub, reduceIte, Nat.reduceLeDiff, reduceCtorEq, Int.reduceNeg, Int.reduceToNat, Int.reduceEq, Int.reduceNe, Int.reduceLT, Int.reduceLE, hc10d, FinW_ret, List.length_set, List.take_length]
      obtain rfl := Option.some.inj h
      exact ⟨_, rfl, (by exact ROk.refl _), (by repeat' (first | exact PureC.val _ | refine PureC.tup ?_ | refine PureC.agg ?_ | exact pure_nil | refine pure_cons ?_ ?_))⟩
def fs_streams_find (N : Nat) : FnS := { own := [], pure := true, fn := fun cs => match cs with
  | [c0, c1, c2] => (Topic.decA c0).bind fun qc0 => (Ref.decA c1).bind fun qc1 => (decS c2).bind fun qc2 => (streams_find N qc0 qc1 qc2).map fun r => .tup [.val (.int .i64 r.1), .val (.bool r.2)]
  | _ => none }
theorem fs_streams_find_own (N : Nat) : (fs_streams_find N).own = [] := rfl
theorem fs_streams_find_pure (N : Nat) : (fs_streams_find N).pure = true := rfl
attribute [go_sem] fs_streams_find fs_streams_find_own fs_streams_find_pure
theorem fs_streams_find_ok (N : Nat) : FSOk Try.prog 30 (fs_streams_find N) := by
  refine ⟨fun cs r h => ?_, fun h => by cases h⟩
  simp only [fs_streams_find] at h
  split at h
  · simp only [Option.bind_eq_some_iff, Option.map_eq_some_iff] at h
    obtain ⟨q0, h0, q1, h1, q2, h2, r', hr, rfl⟩ := h
    exact ((w_streams_find N q0 q1 q2 r' hr).args (LeL.cons (Topic.decA_le h0) (LeL.cons (Ref.decA_le h1) (LeL.cons (decS_le h2) (LeL.nil)))))
  · cases h

end Go.Proofs.Ytpkfhjbgnpdgcaa
end

section
set_option linter.unusedSimpArgs false
set_option linter.unusedVariables false
set_option maxRecDepth 100000
namespace Go.Proofs.Ytpkfhjbgnpdgcaa
open Go Go.Proofs Go.Abs
noncomputable def E_streams_End (N : Nat) : Env := { T := tiOf Try.prog, G := fun d f => if d = 4 ∧ f = 19 then some (fs_streams_Valid N) else none, F := fun d => none }
theorem E_streams_End_F (N : Nat) (d : Nat) : (E_streams_End N).F d = none := rfl
theorem E_streams_End_T (N : Nat) : (E_streams_End N).T = tiOf Try.prog := rfl
theorem E_streams_End_G0 (N : Nat) : (E_streams_End N).G 4 19 = some (fs_streams_Valid N) := rfl
theorem E_streams_End_ok (N : Nat) : GOk Try.prog { T := tiOf Try.prog, G := (E_streams_End N).G } := by
  intro d f fs hfs
  simp only [E_streams_End] at hfs
  by_cases hc : d = 4 ∧ f = 19
  · rw [if_pos hc] at hfs; obtain ⟨rfl, rfl⟩ := hc; obtain rfl := Option.some.inj hfs; exact fs_streams_Valid_ok N
  rw [if_neg hc] at hfs
  cases hfs
theorem fo_streams_End : FunOk Try.prog 17 Try.f17 Try.f17.body.get! := ⟨Try.func17, rfl, by decide, by kernel_rfl⟩
attribute [go_sem] E_streams_End_T E_streams_End_F E_streams_End_G0
set_option maxHeartbeats 4000000 in
theorem w_streams_End (N : Nat) (a0 : Topic) (r : Int) (h : streams_End N a0 = some r) : Con Try.prog 17 [] true [.agg [.val (.string a0.Name), .val (.int .i64 a0.First), .sl false none 1 none (a0.Events.map (rowI .i64)), .sl false none 4 none (a0.Subs.map Sub.row)]] (.val (.int .i64 r)) := by
  refine fun_ok3 (E := E_streams_End N) (tiOf_ok Try.prog (E_streams_End N).G) (E_streams_End_ok N) mix fo_streams_End (Nat.le_of_ble_eq_true rfl) ?_
  intro _
  rw [entry_tab (by simp)]
  rw [show entryF [] [.agg [.val (.string a0.Name), .val (.int .i64 a0.First), .sl false none 1 none (a0.Events.map (rowI .i64)), .sl false none 4 none (a0.Subs.map Sub.row)]] = (updT deadT 0 (.agg [.val (.string a0.Name), .val (.int .i64 a0.First), .sl false none 1 none (a0.Events.map (rowI .i64)), .sl false none 4 none (a0.Subs.map Sub.row)])) from by funext t; match t with | 0 => rfl | t + 1 => rfl]
  apply Wk_start
  simp only [Try.f17, Option.get!, R0_RZ]
  unfold streams_End at h
  refine Wk_seq ?_
  refine Wk_regionZ fun Z hZ => ?_
  simp (config := { maxSteps := 4000000 }) only [go_sem, Nat.reduceLT, Nat.reduceEqDiff, Nat.reduceAdd, Nat.reduceBEq, Nat.reduceMul, Nat.reduceSub, reduceIte, Nat.reduceLeDiff, reduceCtorEq, Int.reduceNeg, Int.reduceToNat, Int.reduceEq, Int.reduceNe, Int.reduceLT, Int.reduceLE]
  refine hZ _ ?_
  repeat (with_reducible first | refine Pop.pop ?_ | refine ap_nil_i ?_ | refine ap_lp_i ?_ | refine ap_bl_next (by decide) ?_)
  refine Wk_seq ?_
  refine Wk_seq ?_
  obtain ⟨r1, hr1, h⟩ := Option.bind_eq_some_iff.1 h
  refine Wk_regionZ fun Z hZ => ?_
  simp (config := { maxSteps := 4000000 }) only [go_sem, Nat.reduceLT, Nat.reduceEqDiff, Nat.reduceAdd, Nat.reduceBEq, Nat.reduceMul, Nat.reduceSub, reduceIte, Nat.reduceLeDiff, reduceCtorEq, Int.reduceNeg, Int.reduceToNat, Int.reduceEq, Int.reduceNe, Int.reduceLT, Int.reduceLE, hr1]
  refine hZ _ ?_
  repeat (with_reducible first | refine Pop.pop ?_ | refine ap_nil_i ?_ | refine ap_lp_i ?_ | refine ap_bl_next (by decide) ?_)
  refine Wk_cond_nbool rfl (fun hc2 => ?_) (fun hc2 => ?_)
  · first | rw [if_neg (ne_true_of_eq_false hc2)] at h | simp only [hc2, Bool.or_false, Bool.or_true, Bool.false_or, Bool.true_or, Bool.and_true, Bool.true_and, Bool.and_false, Bool.false_and, Bool.not_true, Bool.not_false, Bool.false_eq_true, if_true, if_false] at h
    refine Wk_seq ?_
    refine Wk_regionZ fun Z hZ => ?_
    simp (config := { maxSteps := 4000000 }) only [go_sem, Nat.reduceLT, Nat.reduceEqDiff, Nat.reduceAdd, Nat.reduceBEq, Nat.reduceMul, Nat.reduceSub, reduceIte, Nat.reduceLeDiff, reduceCtorEq, Int.reduceNeg, Int.reduceToNat, Int.reduceEq, Int.reduceNe, Int.reduceLT, Int.reduceLE, hr1, hc2]
    refine hZ _ ?_
    repeat (with_reducible first | refine Pop.pop ?_ | refine ap_nil_i ?_ | refine ap_lp_i ?_ | refine ap_bl_next (by decide) ?_)
    refine Wk_ret ?_
    repeat (with_reducible first | refine Pop.pop ?_ | refine ap_nil_i ?_ | refine ap_lp_i ?_ | refine ap_bl_next (by decide) ?_)
    simp (config := { maxSteps := 4000000 }) only [go_sem, Nat.reduceLT, Nat.reduceEqDiff, Nat.reduceAdd, Nat.reduceBEq, Nat.reduceMul, Nat.reduceSub, reduceIte, Nat.reduceLeDiff, reduceCtorEq, Int.reduceNeg, Int.reduceToNat, Int.reduceEq, Int.reduceNe, Int.reduceLT, Int.reduceLE, hr1, hc2, FinW_ret, List.length_set, List.take_length]
    obtain rfl := Option.some.inj h
    exact ⟨_, rfl, (by exact ROk.refl _), (by repeat' (first | exact PureC.val _ | refine PureC.tup ?_ | refine PureC.agg ?_ | exact pure_nil | refine pure_cons ?_ ?_))⟩
  · first | rw [if_pos hc2] at h | simp only [hc2, Bool.or_false, Bool.or_true, Bool.false_or, Bool.true_or, Bool.and_true, Bool.true_and, Bool.and_false, Bool.false_and, Bool.not_true, Bool.not_false, Bool.false_eq_true, if_true, if_false] at h
    refine Wk_skip ?_
    repeat (with_reducible first | refine Pop.pop ?_ | refine ap_nil_i ?_ | refine ap_lp_i ?_ | refine ap_bl_next (by decide) ?_)
    refine Wk_seq ?_
    refine Wk_regionZ fun Z hZ => ?_
    simp (config := { maxSteps := 4000000 }) only [go_sem, Nat.reduceLT, Nat.reduceEqDiff, Nat.reduceAdd, Nat.reduceBEq, Nat.reduceMul, Nat.reduceSub, reduceIte, Nat.reduceLeDiff, reduceCtorEq, Int.reduceNeg, Int.reduceToNat, Int.reduceEq, Int.reduceNe, Int.reduceLT, Int.reduceLE, hr1, hc2]
    refine hZ _ ?_
    repeat (with_reducible first | refine Pop.pop ?_ | refine ap_nil_i ?_ | refine ap_lp_i ?_ | refine ap_bl_next (by decide) ?_)
    refine Wk_ret ?_
    repeat (with_reducible first | refine Pop.pop ?_ | refine ap_nil_i ?_ | refine ap_lp_i ?_ | refine ap_bl_next (by decide) ?_)
    simp (config := { maxSteps := 4000000 }) only [go_sem, Nat.reduceLT, Nat.reduceEqDiff, Nat.reduceAdd, Nat.reduceBEq, Nat.reduceMul, Nat.reduceSub, reduceIte, Nat.reduceLeDiff, reduceCtorEq, Int.reduceNeg, Int.reduceToNat, Int.reduceEq, Int.reduceNe, Int.reduceLT, Int.reduceLE, hr1, hc2, FinW_ret, List.length_set, List.take_length]
    obtain rfl := Option.some.inj h
    exact ⟨_, rfl, (by exact ROk.refl _), (by repeat' (first | exact PureC.val _ | refine PureC.tup ?_ | refine PureC.agg ?_ | exact pure_nil | refine pure_cons ?_ ?_))⟩
def fs_streams_End (N : Nat) : FnS := { own := [], pure := true, fn := fun cs => match cs with
  | [c0] => (Topic.decA c0).bind fun qc0 => (streams_End N qc0).map fun r => .val (.int .i64 r)
  | _ => none }
theorem fs_streams_End_own (N : Nat) : (fs_streams_End N).own = [] := rfl
theorem fs_streams_End_pure (N : Nat) : (fs_streams_End N).pure = true := rfl
attribute [go_sem] fs_streams_End fs_streams_End_own fs_streams_End_pure
theorem fs_streams_End_ok (N : Nat) : FSOk Try.prog 17 (fs_streams_End N) := by
  refine ⟨fun cs r h => ?_, fun h => by cases h⟩
  simp only [fs_streams_End] at h
  split at h
  · simp only [Option.bind_eq_some_iff, Option.map_eq_some_iff] at h
    obtain ⟨q0, h0, r', hr, rfl⟩ := h
    exact ((w_streams_End N q0 r' hr).args (LeL.cons (Topic.decA_le h0) (LeL.nil)))
  · cases h

end Go.Proofs.Ytpkfhjbgnpdgcaa
end

section
set_option linter.unusedSimpArgs false
set_option linter.unusedVariables false
set_option maxRecDepth 100000
namespace Go.Proofs.Ytpkfhjbgnpdgcaa
open Go Go.Proofs Go.Abs
noncomputable def E_slices_Clone_int (N : Nat) : Env := { T := tiOf Try.prog, G := fun d f => none, F := fun d => none }
theorem E_slices_Clone_int_F (N : Nat) (d : Nat) : (E_slices_Clone_int N).F d = none := rfl
theorem E_slices_Clone_int_T (N : Nat) : (E_slices_Clone_int N).T = tiOf Try.prog := rfl
theorem E_slices_Clone_int_ok (N : Nat) : GOk Try.prog { T := tiOf Try.prog, G := (E_slices_Clone_int N).G } := by
  intro d f fs hfs
  cases hfs
theorem fo_slices_Clone_int : FunOk Try.prog 38 Try.f38 Try.f38.body.get! := ⟨Try.func38, rfl, by decide, by kernel_rfl⟩
attribute [go_sem] E_slices_Clone_int_T E_slices_Clone_int_F
set_option maxHeartbeats 4000000 in
theorem w_slices_Clone_int_nn (N : Nat) (a0 : (List Int)) (r : (List Int)) (h : slices_Clone_int N a0 = some r) : Con Try.prog 38 [] true [.sl false (some false) 1 none (a0.map (rowI .i64))] (.sl true none 1 none (r.map (rowI .i64))) := by
  refine fun_ok3 (E := E_slices_Clone_int N) (tiOf_ok Try.prog (E_slices_Clone_int N).G) (E_slices_Clone_int_ok N) mix fo_slices_Clone_int (Nat.le_of_ble_eq_true rfl) ?_
  intro _
  rw [entry_tab (by simp)]
  rw [show entryF [] [.sl false (some false) 1 none (a0.map (rowI .i64))] = (updT deadT 0 (.sl false (some false) 1 none (a0.map (rowI .i64)))) from by funext t; match t with | 0 => rfl | t + 1 => rfl]
  apply Wk_start
  simp only [Try.f38, Option.get!, R0_RZ]
  unfold slices_Clone_int at h
  refine Wk_seq ?_
  refine Wk_regionZ fun Z hZ => ?_
  simp (config := { maxSteps := 4000000 }) only [go_sem, Nat.reduceLT, Nat.reduceEqDiff, Nat.reduceAdd, Nat.reduceBEq, Nat.reduceMul, Nat.reduceSub, reduceIte, Nat.reduceLeDiff, reduceCtorEq, Int.reduceNeg, Int.reduceToNat, Int.reduceEq, Int.reduceNe, Int.reduceLT, Int.reduceLE]
  refine hZ _ ?_
  repeat (with_reducible first | refine Pop.pop ?_ | refine ap_nil_i ?_ | refine ap_lp_i ?_ | refine ap_bl_next (by decide) ?_)
  refine Wk_seq ?_
  refine Wk_seq ?_
  refine Wk_regionZ fun Z hZ => ?_
  simp (config := { maxSteps := 4000000 }) only [go_sem, Nat.reduceLT, Nat.reduceEqDiff, Nat.reduceAdd, Nat.reduceBEq, Nat.reduceMul, Nat.reduceSub, reduceIte, Nat.reduceLeDiff, reduceCtorEq, Int.reduceNeg, Int.reduceToNat, Int.reduceEq, Int.reduceNe, Int.reduceLT, Int.reduceLE]
  refine hZ _ ?_
  repeat (with_reducible first | refine Pop.pop ?_ | refine ap_nil_i ?_ | refine ap_lp_i ?_ | refine ap_bl_next (by decide) ?_)
  refine Wk_cond_f rfl ?_
  first | rw [if_pos (rfl : true = true)] at h | rw [if_neg Bool.false_ne_true] at h | skip
  refine Wk_skip ?_
  repeat (with_reducible first | refine Pop.pop ?_ | refine ap_nil_i ?_ | refine ap_lp_i ?_ | refine ap_bl_next (by decide) ?_)
  refine Wk_seq ?_
  first | obtain ⟨ha1, h⟩ := apn_some h | (obtain ⟨ha1, h⟩ := apx_some h; rw [List.nil_append] at h)
  simp only [List.length_cons, List.length_nil, Nat.zero_add, Nat.add_zero, Nat.reduceAdd] at ha1
  refine Wk_regionZ fun Z hZ => ?_
  simp (config := { maxSteps := 4000000 }) only [go_sem, Nat.reduceLT, Nat.reduceEqDiff, Nat.reduceAdd, Nat.reduceBEq, Nat.reduceMul, Nat.reduceSub, reduceIte, Nat.reduceLeDiff, reduceCtorEq, Int.reduceNeg, Int.reduceToNat, Int.reduceEq, Int.reduceNe, Int.reduceLT, Int.reduceLE, ha1]
  refine hZ _ ?_
  repeat (with_reducible first | refine Pop.pop ?_ | refine ap_nil_i ?_ | refine ap_lp_i ?_ | refine ap_bl_next (by decide) ?_)
  refine Wk_ret ?_
  repeat (with_reducible first | refine Pop.pop ?_ | refine ap_nil_i ?_ | refine ap_lp_i ?_ | refine ap_bl_next (by decide) ?_)
  simp (config := { maxSteps := 4000000 }) only [go_sem, Nat.reduceLT, Nat.reduceEqDiff, Nat.reduceAdd, Nat.reduceBEq, Nat.reduceMul, Nat.reduceSub, reduceIte, Nat.reduceLeDiff, reduceCtorEq, Int.reduceNeg, Int.reduceToNat, Int.reduceEq, Int.reduceNe, Int.reduceLT, Int.reduceLE, ha1, FinW_ret, List.length_set, List.take_length]
  obtain rfl := Option.some.inj h
  exact ⟨_, rfl, (by repeat' (first | exact ROk.refl _ | exact ROk.nil _ | ((refine ROk.of _ ?_ ?_); (focus ((repeat' (first | exact Le.refl _ | exact LeL.nil | exact Le.nils | exact LeLL.refl _ | refine LeLL.mapAppend ?_ ?_ | refine LeLL.cons ?_ ?_ | refine Le.sl ?_ | refine Le.tup ?_ | refine Le.agg ?_ | refine LeL.cons ?_ ?_)); done)); (focus ((repeat' (first | exact NoOwn.val _ | exact NoOwn.sl _ _ _ _ | refine NoOwn.tup ?_ | refine NoOwn.agg ?_ | exact noOwn_nil | refine noOwn_cons ?_ ?_)); done))) | ((refine ROk.own ?_ ?_); (focus ((repeat' (first | exact Le.refl _ | exact LeL.nil | exact Le.nils | exact LeLL.refl _ | refine LeLL.mapAppend ?_ ?_ | refine LeLL.cons ?_ ?_ | refine Le.sl ?_ | refine Le.tup ?_ | refine Le.agg ?_ | refine LeL.cons ?_ ?_)); done)); (focus ((first | exact RowOk.noOwn (rowI_ok .i64) _); done))) | refine ROk.agg rfl ?_ | refine ROk.tup rfl ?_ | exact rok_nil | refine rok_cons ?_ ?_)), (by (repeat' (first | exact PureC.val _ | refine PureC.tup ?_ | refine PureC.agg ?_ | exact pure_nil | refine pure_cons ?_ ?_ | refine PureC.sl ?_ | exact pure_rows (pure_rowI .i64) _ |  exact pure_rows_nil | refine pure_rows_append ?_ ?_ | refine pure_rows_cons ?_ ?_)))⟩
set_option maxHeartbeats 4000000 in
theorem w_slices_Clone_int_nil (N : Nat)  (r : (List Int)) (h : slices_Clone_int N [] = some r) : Con Try.prog 38 [] true [.val (.slice none 0 0)] (.sl true none 1 none (r.map (rowI .i64))) := by
  refine fun_ok3 (E := E_slices_Clone_int N) (tiOf_ok Try.prog (E_slices_Clone_int N).G) (E_slices_Clone_int_ok N) mix fo_slices_Clone_int (Nat.le_of_ble_eq_true rfl) ?_
  intro _
  rw [entry_tab (by simp)]
  rw [show entryF [] [.val (.slice none 0 0)] = (updT deadT 0 (.val (.slice none 0 0))) from by funext t; match t with | 0 => rfl | t + 1 => rfl]
  apply Wk_start
  simp only [Try.f38, Option.get!, R0_RZ]
  unfold slices_Clone_int at h
  refine Wk_seq ?_
  refine Wk_regionZ fun Z hZ => ?_
  simp (config := { maxSteps := 4000000 }) only [go_sem, Nat.reduceLT, Nat.reduceEqDiff, Nat.reduceAdd, Nat.reduceBEq, Nat.reduceMul, Nat.reduceSub, reduceIte, Nat.reduceLeDiff, reduceCtorEq, Int.reduceNeg, Int.reduceToNat, Int.reduceEq, Int.reduceNe, Int.reduceLT, Int.reduceLE]
  refine hZ _ ?_
  repeat (with_reducible first | refine Pop.pop ?_ | refine ap_nil_i ?_ | refine ap_lp_i ?_ | refine ap_bl_next (by decide) ?_)
  refine Wk_seq ?_
  refine Wk_seq ?_
  refine Wk_regionZ fun Z hZ => ?_
  simp (config := { maxSteps := 4000000 }) only [go_sem, Nat.reduceLT, Nat.reduceEqDiff, Nat.reduceAdd, Nat.reduceBEq, Nat.reduceMul, Nat.reduceSub, reduceIte, Nat.reduceLeDiff, reduceCtorEq, Int.reduceNeg, Int.reduceToNat, Int.reduceEq, Int.reduceNe, Int.reduceLT, Int.reduceLE]
  refine hZ _ ?_
  repeat (with_reducible first | refine Pop.pop ?_ | refine ap_nil_i ?_ | refine ap_lp_i ?_ | refine ap_bl_next (by decide) ?_)
  refine Wk_cond_t rfl ?_
  first | rw [if_pos (rfl : true = true)] at h | rw [if_neg Bool.false_ne_true] at h | skip
  refine Wk_seq ?_
  refine Wk_regionZ fun Z hZ => ?_
  simp (config := { maxSteps := 4000000 }) only [go_sem, Nat.reduceLT, Nat.reduceEqDiff, Nat.reduceAdd, Nat.reduceBEq, Nat.reduceMul, Nat.reduceSub, reduceIte, Nat.reduceLeDiff, reduceCtorEq, Int.reduceNeg, Int.reduceToNat, Int.reduceEq, Int.reduceNe, Int.reduceLT, Int.reduceLE]
  refine hZ _ ?_
  repeat (with_reducible first | refine Pop.pop ?_ | refine ap_nil_i ?_ | refine ap_lp_i ?_ | refine ap_bl_next (by decide) ?_)
  refine Wk_ret ?_
  repeat (with_reducible first | refine Pop.pop ?_ | refine ap_nil_i ?_ | refine ap_lp_i ?_ | refine ap_bl_next (by decide) ?_)
  simp (config := { maxSteps := 4000000 }) only [go_sem, Nat.reduceLT, Nat.reduceEqDiff, Nat.reduceAdd, Nat.reduceBEq, Nat.reduceMul, Nat.reduceSub, reduceIte, Nat.reduceLeDiff, reduceCtorEq, Int.reduceNeg, Int.reduceToNat, Int.reduceEq, Int.reduceNe, Int.reduceLT, Int.reduceLE, FinW_ret, List.length_set, List.take_length]
  obtain rfl : r = [] := by simpa [apn] using h.symm
  exact ⟨_, rfl, (by repeat' (first | exact ROk.refl _ | exact ROk.nil _ | ((refine ROk.of _ ?_ ?_); (focus ((repeat' (first | exact Le.refl _ | exact LeL.nil | exact Le.nils | exact LeLL.refl _ | refine LeLL.mapAppend ?_ ?_ | refine LeLL.cons ?_ ?_ | refine Le.sl ?_ | refine Le.tup ?_ | refine Le.agg ?_ | refine LeL.cons ?_ ?_)); done)); (focus ((repeat' (first | exact NoOwn.val _ | exact NoOwn.sl _ _ _ _ | refine NoOwn.tup ?_ | refine NoOwn.agg ?_ | exact noOwn_nil | refine noOwn_cons ?_ ?_)); done))) | ((refine ROk.own ?_ ?_); (focus ((repeat' (first | exact Le.refl _ | exact LeL.nil | exact Le.nils | exact LeLL.refl _ | refine LeLL.mapAppend ?_ ?_ | refine LeLL.cons ?_ ?_ | refine Le.sl ?_ | refine Le.tup ?_ | refine Le.agg ?_ | refine LeL.cons ?_ ?_)); done)); (focus ((first | exact RowOk.noOwn (rowI_ok .i64) _); done))) | refine ROk.agg rfl ?_ | refine ROk.tup rfl ?_ | exact rok_nil | refine rok_cons ?_ ?_)), (by (repeat' (first | exact PureC.val _ | refine PureC.tup ?_ | refine PureC.agg ?_ | exact pure_nil | refine pure_cons ?_ ?_ | refine PureC.sl ?_ | exact pure_rows (pure_rowI .i64) _ |  exact pure_rows_nil | refine pure_rows_append ?_ ?_ | refine pure_rows_cons ?_ ?_)))⟩
theorem w_slices_Clone_int (N : Nat) (a0 : (List Int)) (r : (List Int)) (h : slices_Clone_int N a0 = some r) : Con Try.prog 38 [] true [.sl false none 1 none (a0.map (rowI .i64))] (.sl true none 1 none (r.map (rowI .i64))) :=
  Con_nl (fun e => by obtain rfl : a0 = [] := List.map_eq_nil_iff.1 e; exact w_slices_Clone_int_nil N r h) (w_slices_Clone_int_nn N a0 r h)
def fs_slices_Clone_int (N : Nat) : FnS := { own := [], pure := true, fn := fun cs => match cs with
  | [c0] => ((decL 1 (dec1 (decI .i64))) c0).bind fun qc0 => (slices_Clone_int N qc0).map fun r => .sl false none 1 none (r.map (rowI .i64))
  | _ => none }
theorem fs_slices_Clone_int_own (N : Nat) : (fs_slices_Clone_int N).own = [] := rfl
theorem fs_slices_Clone_int_pure (N : Nat) : (fs_slices_Clone_int N).pure = true := rfl
attribute [go_sem] fs_slices_Clone_int fs_slices_Clone_int_own fs_slices_Clone_int_pure
theorem fs_slices_Clone_int_ok (N : Nat) : FSOk Try.prog 38 (fs_slices_Clone_int N) := by
  refine ⟨fun cs r h => ?_, fun h => by cases h⟩
  simp only [fs_slices_Clone_int] at h
  split at h
  · simp only [Option.bind_eq_some_iff, Option.map_eq_some_iff] at h
    obtain ⟨q0, h0, r', hr, rfl⟩ := h
    exact (((w_slices_Clone_int N q0 r' hr).args (LeL.cons (decL_le (decI1_le .i64) h0) (LeL.nil))).res (by repeat' (first | exact ROk.refl _ | exact ROk.nil _ | ((refine ROk.of _ ?_ ?_); (focus ((repeat' (first | exact Le.refl _ | exact LeL.nil | exact Le.nils | exact LeLL.refl _ | refine LeLL.mapAppend ?_ ?_ | refine LeLL.cons ?_ ?_ | refine Le.sl ?_ | refine Le.tup ?_ | refine Le.agg ?_ | refine LeL.cons ?_ ?_)); done)); (focus ((repeat' (first | exact NoOwn.val _ | exact NoOwn.sl _ _ _ _ | refine NoOwn.tup ?_ | refine NoOwn.agg ?_ | exact noOwn_nil | refine noOwn_cons ?_ ?_)); done))) | ((refine ROk.own ?_ ?_); (focus ((repeat' (first | exact Le.refl _ | exact LeL.nil | exact Le.nils | exact LeLL.refl _ | refine LeLL.mapAppend ?_ ?_ | refine LeLL.cons ?_ ?_ | refine Le.sl ?_ | refine Le.tup ?_ | refine Le.agg ?_ | refine LeL.cons ?_ ?_)); done)); (focus ((first | exact RowOk.noOwn (rowI_ok .i64) _); done))) | refine ROk.agg rfl ?_ | refine ROk.tup rfl ?_ | exact rok_nil | refine rok_cons ?_ ?_)))
  · cases h

def fso_slices_Clone_int (N : Nat) : FnS := { own := [], pure := true, fn := fun cs => match cs with
  | [c0] => ((decL 1 (dec1 (decI .i64))) c0).bind fun qc0 => (slices_Clone_int N qc0).map fun r => .sl true none 1 none (r.map (rowI .i64))
  | _ => none }
theorem fso_slices_Clone_int_own (N : Nat) : (fso_slices_Clone_int N).own = [] := rfl
theorem fso_slices_Clone_int_pure (N : Nat) : (fso_slices_Clone_int N).pure = true := rfl
attribute [go_sem] fso_slices_Clone_int fso_slices_Clone_int_own fso_slices_Clone_int_pure
theorem fso_slices_Clone_int_ok (N : Nat) : FSOk Try.prog 38 (fso_slices_Clone_int N) := by
  refine ⟨fun cs r h => ?_, fun h => by cases h⟩
  simp only [fso_slices_Clone_int] at h
  split at h
  · simp only [Option.bind_eq_some_iff, Option.map_eq_some_iff] at h
    obtain ⟨q0, h0, r', hr, rfl⟩ := h
    exact ((w_slices_Clone_int N q0 r' hr).args (LeL.cons (decL_le (decI1_le .i64) h0) (LeL.nil)))
  · cases h

end Go.Proofs.Ytpkfhjbgnpdgcaa
end

section
set_option linter.unusedSimpArgs false
set_option linter.unusedVariables false
set_option maxRecDepth 100000
namespace Go.Proofs.Ytpkfhjbgnpdgcaa
open Go Go.Proofs Go.Abs
noncomputable def E_slices_Clone_Sub (N : Nat) : Env := { T := tiOf Try.prog, G := fun d f => none, F := fun d => none }
theorem E_slices_Clone_Sub_F (N : Nat) (d : Nat) : (E_slices_Clone_Sub N).F d = none := rfl
theorem E_slices_Clone_Sub_T (N : Nat) : (E_slices_Clone_Sub N).T = tiOf Try.prog := rfl
theorem E_slices_Clone_Sub_ok (N : Nat) : GOk Try.prog { T := tiOf Try.prog, G := (E_slices_Clone_Sub N).G } := by
  intro d f fs hfs
  cases hfs
theorem fo_slices_Clone_Sub : FunOk Try.prog 39 Try.f39 Try.f39.body.get! := ⟨Try.func39, rfl, by decide, by kernel_rfl⟩
attribute [go_sem] E_slices_Clone_Sub_T E_slices_Clone_Sub_F
set_option maxHeartbeats 4000000 in
theorem w_slices_Clone_Sub_nn (N : Nat) (a0 : (List Sub)) (r : (List Sub)) (h : slices_Clone_Sub N a0 = some r) : Con Try.prog 39 [] true [.sl false (some false) 4 none (a0.map Sub.row)] (.sl true none 4 none (r.map Sub.row)) := by
  refine fun_ok3 (E := E_slices_Clone_Sub N) (tiOf_ok Try.prog (E_slices_Clone_Sub N).G) (E_slices_Clone_Sub_ok N) mix fo_slices_Clone_Sub (Nat.le_of_ble_eq_true rfl) ?_
  intro _
  rw [entry_tab (by simp)]
  rw [show entryF [] [.sl false (some false) 4 none (a0.map Sub.row)] = (updT deadT 0 (.sl false (some false) 4 none (a0.map Sub.row))) from by funext t; match t with | 0 => rfl | t + 1 => rfl]
  apply Wk_start
  simp only [Try.f39, Option.get!, R0_RZ]
  unfold slices_Clone_Sub at h
  refine Wk_seq ?_
  refine Wk_regionZ fun Z hZ => ?_
  simp (config := { maxSteps := 4000000 }) only [go_sem, Nat.reduceLT, Nat.reduceEqDiff, Nat.reduceAdd, Nat.reduceBEq, Nat.reduceMul, Nat.reduceSub, reduceIte, Nat.reduceLeDiff, reduceCtorEq, Int.reduceNeg, Int.reduceToNat, Int.reduceEq, Int.reduceNe, Int.reduceLT, Int.reduceLE]
  refine hZ _ ?_
  repeat (with_reducible first | refine Pop.pop ?_ | refine ap_nil_i ?_ | refine ap_lp_i ?_ | refine ap_bl_next (by decide) ?_)
  refine Wk_seq ?_
  refine Wk_seq ?_
  refine Wk_regionZ fun Z hZ => ?_
  simp (config := { maxSteps := 4000000 }) only [go_sem, Nat.reduceLT, Nat.reduceEqDiff, Nat.reduceAdd, Nat.reduceBEq, Nat.reduceMul, Nat.reduceSub, reduceIte, Nat.reduceLeDiff, reduceCtorEq, Int.reduceNeg, Int.reduceToNat, Int.reduceEq, Int.reduceNe, Int.reduceLT, Int.reduceLE]
  refine hZ _ ?_
  repeat (with_reducible first | refine Pop.pop ?_ | refine ap_nil_i ?_ | refine ap_lp_i ?_ | refine ap_bl_next (by decide) ?_)
  refine Wk_cond_f rfl ?_
  first | rw [if_pos (rfl : true = true)] at h | rw [if_neg Bool.false_ne_true] at h | skip
  refine Wk_skip ?_
  repeat (with_reducible first | refine Pop.pop ?_ | refine ap_nil_i ?_ | refine ap_lp_i ?_ | refine ap_bl_next (by decide) ?_)
  refine Wk_seq ?_
  first | obtain ⟨ha1, h⟩ := apn_some h | (obtain ⟨ha1, h⟩ := apx_some h; rw [List.nil_append] at h)
  simp only [List.length_cons, List.length_nil, Nat.zero_add, Nat.add_zero, Nat.reduceAdd] at ha1
  refine Wk_regionZ fun Z hZ => ?_
  simp (config := { maxSteps := 4000000 }) only [go_sem, Nat.reduceLT, Nat.reduceEqDiff, Nat.reduceAdd, Nat.reduceBEq, Nat.reduceMul, Nat.reduceSub, reduceIte, Nat.reduceLeDiff, reduceCtorEq, Int.reduceNeg, Int.reduceToNat, Int.reduceEq, Int.reduceNe, Int.reduceLT, Int.reduceLE, ha1]
  refine hZ _ ?_
  repeat (with_reducible first | refine Pop.pop ?_ | refine ap_nil_i ?_ | refine ap_lp_i ?_ | refine ap_bl_next (by decide) ?_)
  refine Wk_ret ?_
  repeat (with_reducible first | refine Pop.pop ?_ | refine ap_nil_i ?_ | refine ap_lp_i ?_ | refine ap_bl_next (by decide) ?_)
  simp (config := { maxSteps := 4000000 }) only [go_sem, Nat.reduceLT, Nat.reduceEqDiff, Nat.reduceAdd, Nat.reduceBEq, Nat.reduceMul, Nat.reduceSub, reduceIte, Nat.reduceLeDiff, reduceCtorEq, Int.reduceNeg, Int.reduceToNat, Int.reduceEq, Int.reduceNe, Int.reduceLT, Int.reduceLE, ha1, FinW_ret, List.length_set, List.take_length]
  obtain rfl := Option.some.inj h
  exact ⟨_, rfl, (by repeat' (first | exact ROk.refl _ | exact ROk.nil _ | ((refine ROk.of _ ?_ ?_); (focus ((repeat' (first | exact Le.refl _ | exact LeL.nil | exact Le.nils | exact LeLL.refl _ | refine LeLL.mapAppend ?_ ?_ | refine LeLL.cons ?_ ?_ | refine Le.sl ?_ | refine Le.tup ?_ | refine Le.agg ?_ | refine LeL.cons ?_ ?_)); done)); (focus ((repeat' (first | exact NoOwn.val _ | exact NoOwn.sl _ _ _ _ | refine NoOwn.tup ?_ | refine NoOwn.agg ?_ | exact noOwn_nil | refine noOwn_cons ?_ ?_)); done))) | ((refine ROk.own ?_ ?_); (focus ((repeat' (first | exact Le.refl _ | exact LeL.nil | exact Le.nils | exact LeLL.refl _ | refine LeLL.mapAppend ?_ ?_ | refine LeLL.cons ?_ ?_ | refine Le.sl ?_ | refine Le.tup ?_ | refine Le.agg ?_ | refine LeL.cons ?_ ?_)); done)); (focus ((first | exact RowOk.noOwn Sub.row_ok _); done))) | refine ROk.agg rfl ?_ | refine ROk.tup rfl ?_ | exact rok_nil | refine rok_cons ?_ ?_)), (by (repeat' (first | exact PureC.val _ | refine PureC.tup ?_ | refine PureC.agg ?_ | exact pure_nil | refine pure_cons ?_ ?_ | refine PureC.sl ?_ | exact pure_rows Sub.row_pure _ |  exact pure_rows_nil | refine pure_rows_append ?_ ?_ | refine pure_rows_cons ?_ ?_)))⟩
set_option maxHeartbeats 4000000 in
theorem w_slices_Clone_Sub_nil (N : Nat)  (r : (List Sub)) (h : slices_Clone_Sub N [] = some r) : Con Try.prog 39 [] true [.val (.slice none 0 0)] (.sl true none 4 none (r.map Sub.row)) := by
  refine fun_ok3 (E := E_slices_Clone_Sub N) (tiOf_ok Try.prog (E_slices_Clone_Sub N).G) (E_slices_Clone_Sub_ok N) mix fo_slices_Clone_Sub (Nat.le_of_ble_eq_true rfl) ?_
  intro _
  rw [entry_tab (by simp)]
  rw [show entryF [] [.val (.slice none 0 0)] = (updT deadT 0 (.val (.slice none 0 0))) from by funext t; match t with | 0 => rfl | t + 1 => rfl]
  apply Wk_start
  simp only [Try.f39, Option.get!, R0_RZ]
  unfold slices_Clone_Sub at h
  refine Wk_seq ?_
  refine Wk_regionZ fun Z hZ => ?_
  simp (config := { maxSteps := 4000000 }) only [go_sem, Nat.reduceLT, Nat.reduceEqDiff, Nat.reduceAdd, Nat.reduceBEq, Nat.reduceMul, Nat.reduceSub, reduceIte, Nat.reduceLeDiff, reduceCtorEq, Int.reduceNeg, Int.reduceToNat, Int.reduceEq, Int.reduceNe, Int.reduceLT, Int.reduceLE]
  refine hZ _ ?_
  repeat (with_reducible first | refine Pop.pop ?_ | refine ap_nil_i ?_ | refine ap_lp_i ?_ | refine ap_bl_next (by decide) ?_)
  refine Wk_seq ?_
  refine Wk_seq ?_
  refine Wk_regionZ fun Z hZ => ?_
  simp (config := { maxSteps := 4000000 }) only [go_sem, Nat.reduceLT, Nat.reduceEqDiff, Nat.reduceAdd, Nat.reduceBEq, Nat.reduceMul, Nat.reduceSub, reduceIte, Nat.reduceLeDiff, reduceCtorEq, Int.reduceNeg, Int.reduceToNat, Int.reduceEq, Int.reduceNe, Int.reduceLT, Int.reduceLE]
  refine hZ _ ?_
  repeat (with_reducible first | refine Pop.pop ?_ | refine ap_nil_i ?_ | refine ap_lp_i ?_ | refine ap_bl_next (by decide) ?_)
  refine Wk_cond_t rfl ?_
  first | rw [if_pos (rfl : true = true)] at h | rw [if_neg Bool.false_ne_true] at h | skip
  refine Wk_seq ?_
  refine Wk_regionZ fun Z hZ => ?_
  simp (config := { maxSteps := 4000000 }) only [go_sem, Nat.reduceLT, Nat.reduceEqDiff, Nat.reduceAdd, Nat.reduceBEq, Nat.reduceMul, Nat.reduceSub, reduceIte, Nat.reduceLeDiff, reduceCtorEq, Int.reduceNeg, Int.reduceToNat, Int.reduceEq, Int.reduceNe, Int.reduceLT, Int.reduceLE]
  refine hZ _ ?_
  repeat (with_reducible first | refine Pop.pop ?_ | refine ap_nil_i ?_ | refine ap_lp_i ?_ | refine ap_bl_next (by decide) ?_)
  refine Wk_ret ?_
  repeat (with_reducible first | refine Pop.pop ?_ | refine ap_nil_i ?_ | refine ap_lp_i ?_ | refine ap_bl_next (by decide) ?_)
  simp (config := { maxSteps := 4000000 }) only [go_sem, Nat.reduceLT, Nat.reduceEqDiff, Nat.reduceAdd, Nat.reduceBEq, Nat.reduceMul, Nat.reduceSub, reduceIte, Nat.reduceLeDiff, reduceCtorEq, Int.reduceNeg, Int.reduceToNat, Int.reduceEq, Int.reduceNe, Int.reduceLT, Int.reduceLE, FinW_ret, List.length_set, List.take_length]
  obtain rfl : r = [] := by simpa [apn] using h.symm
  exact ⟨_, rfl, (by repeat' (first | exact ROk.refl _ | exact ROk.nil _ | ((refine ROk.of _ ?_ ?_); (focus ((repeat' (first | exact Le.refl _ | exact LeL.nil | exact Le.nils | exact LeLL.refl _ | refine LeLL.mapAppend ?_ ?_ | refine LeLL.cons ?_ ?_ | refine Le.sl ?_ | refine Le.tup ?_ | refine Le.agg ?_ | refine LeL.cons ?_ ?_)); done)); (focus ((repeat' (first | exact NoOwn.val _ | exact NoOwn.sl _ _ _ _ | refine NoOwn.tup ?_ | refine NoOwn.agg ?_ | exact noOwn_nil | refine noOwn_cons ?_ ?_)); done))) | ((refine ROk.own ?_ ?_); (focus ((repeat' (first | exact Le.refl _ | exact LeL.nil | exact Le.nils | exact LeLL.refl _ | refine LeLL.mapAppend ?_ ?_ | refine LeLL.cons ?_ ?_ | refine Le.sl ?_ | refine Le.tup ?_ | refine Le.agg ?_ | refine LeL.cons ?_ ?_)); done)); (focus ((first | exact RowOk.noOwn Sub.row_ok _); done))) | refine ROk.agg rfl ?_ | refine ROk.tup rfl ?_ | exact rok_nil | refine rok_cons ?_ ?_)), (by (repeat' (first | exact PureC.val _ | refine PureC.tup ?_ | refine PureC.agg ?_ | exact pure_nil | refine pure_cons ?_ ?_ | refine PureC.sl ?_ | exact pure_rows Sub.row_pure _ |  exact pure_rows_nil | refine pure_rows_append ?_ ?_ | refine pure_rows_cons ?_ ?_)))⟩
theorem w_slices_Clone_Sub (N : Nat) (a0 : (List Sub)) (r : (List Sub)) (h : slices_Clone_Sub N a0 = some r) : Con Try.prog 39 [] true [.sl false none 4 none (a0.map Sub.row)] (.sl true none 4 none (r.map Sub.row)) :=
  Con_nl (fun e => by obtain rfl : a0 = [] := List.map_eq_nil_iff.1 e; exact w_slices_Clone_Sub_nil N r h) (w_slices_Clone_Sub_nn N a0 r h)
def fs_slices_Clone_Sub (N : Nat) : FnS := { own := [], pure := true, fn := fun cs => match cs with
  | [c0] => ((decL 4 Sub.dec) c0).bind fun qc0 => (slices_Clone_Sub N qc0).map fun r => .sl false none 4 none (r.map Sub.row)
  | _ => none }
theorem fs_slices_Clone_Sub_own (N : Nat) : (fs_slices_Clone_Sub N).own = [] := rfl
theorem fs_slices_Clone_Sub_pure (N : Nat) : (fs_slices_Clone_Sub N).pure = true := rfl
attribute [go_sem] fs_slices_Clone_Sub fs_slices_Clone_Sub_own fs_slices_Clone_Sub_pure
theorem fs_slices_Clone_Sub_ok (N : Nat) : FSOk Try.prog 39 (fs_slices_Clone_Sub N) := by
  refine ⟨fun cs r h => ?_, fun h => by cases h⟩
  simp only [fs_slices_Clone_Sub] at h
  split at h
  · simp only [Option.bind_eq_some_iff, Option.map_eq_some_iff] at h
    obtain ⟨q0, h0, r', hr, rfl⟩ := h
    exact (((w_slices_Clone_Sub N q0 r' hr).args (LeL.cons (decL_le Sub.dec_le h0) (LeL.nil))).res (by repeat' (first | exact ROk.refl _ | exact ROk.nil _ | ((refine ROk.of _ ?_ ?_); (focus ((repeat' (first | exact Le.refl _ | exact LeL.nil | exact Le.nils | exact LeLL.refl _ | refine LeLL.mapAppend ?_ ?_ | refine LeLL.cons ?_ ?_ | refine Le.sl ?_ | refine Le.tup ?_ | refine Le.agg ?_ | refine LeL.cons ?_ ?_)); done)); (focus ((repeat' (first | exact NoOwn.val _ | exact NoOwn.sl _ _ _ _ | refine NoOwn.tup ?_ | refine NoOwn.agg ?_ | exact noOwn_nil | refine noOwn_cons ?_ ?_)); done))) | ((refine ROk.own ?_ ?_); (focus ((repeat' (first | exact Le.refl _ | exact LeL.nil | exact Le.nils | exact LeLL.refl _ | refine LeLL.mapAppend ?_ ?_ | refine LeLL.cons ?_ ?_ | refine Le.sl ?_ | refine Le.tup ?_ | refine Le.agg ?_ | refine LeL.cons ?_ ?_)); done)); (focus ((first | exact RowOk.noOwn Sub.row_ok _); done))) | refine ROk.agg rfl ?_ | refine ROk.tup rfl ?_ | exact rok_nil | refine rok_cons ?_ ?_)))
  · cases h

def fso_slices_Clone_Sub (N : Nat) : FnS := { own := [], pure := true, fn := fun cs => match cs with
  | [c0] => ((decL 4 Sub.dec) c0).bind fun qc0 => (slices_Clone_Sub N qc0).map fun r => .sl true none 4 none (r.map Sub.row)
  | _ => none }
theorem fso_slices_Clone_Sub_own (N : Nat) : (fso_slices_Clone_Sub N).own = [] := rfl
theorem fso_slices_Clone_Sub_pure (N : Nat) : (fso_slices_Clone_Sub N).pure = true := rfl
attribute [go_sem] fso_slices_Clone_Sub fso_slices_Clone_Sub_own fso_slices_Clone_Sub_pure
theorem fso_slices_Clone_Sub_ok (N : Nat) : FSOk Try.prog 39 (fso_slices_Clone_Sub N) := by
  refine ⟨fun cs r h => ?_, fun h => by cases h⟩
  simp only [fso_slices_Clone_Sub] at h
  split at h
  · simp only [Option.bind_eq_some_iff, Option.map_eq_some_iff] at h
    obtain ⟨q0, h0, r', hr, rfl⟩ := h
    exact ((w_slices_Clone_Sub N q0 r' hr).args (LeL.cons (decL_le Sub.dec_le h0) (LeL.nil)))
  · cases h

end Go.Proofs.Ytpkfhjbgnpdgcaa
end

section
set_option linter.unusedSimpArgs false
set_option linter.unusedVariables false
set_option maxRecDepth 100000
namespace Go.Proofs.Ytpkfhjbgnpdgcaa
open Go Go.Proofs Go.Abs
noncomputable def E_streams_clone (N : Nat) : Env := { T := tiOf Try.prog, G := fun d f => if d = 5 ∧ f = 38 then some (fso_slices_Clone_int N) else if d = 8 ∧ f = 39 then some (fso_slices_Clone_Sub N) else none, F := fun d => none }
theorem E_streams_clone_F (N : Nat) (d : Nat) : (E_streams_clone N).F d = none := rfl
theorem E_streams_clone_T (N : Nat) : (E_streams_clone N).T = tiOf Try.prog := rfl
theorem E_streams_clone_G0 (N : Nat) : (E_streams_clone N).G 5 38 = some (fso_slices_Clone_int N) := rfl
theorem E_streams_clone_G1 (N : Nat) : (E_streams_clone N).G 8 39 = some (fso_slices_Clone_Sub N) := rfl
theorem E_streams_clone_ok (N : Nat) : GOk Try.prog { T := tiOf Try.prog, G := (E_streams_clone N).G } := by
  intro d f fs hfs
  simp only [E_streams_clone] at hfs
  by_cases hc : d = 5 ∧ f = 38
  · rw [if_pos hc] at hfs; obtain ⟨rfl, rfl⟩ := hc; obtain rfl := Option.some.inj hfs; exact fso_slices_Clone_int_ok N
  rw [if_neg hc] at hfs
  by_cases hc : d = 8 ∧ f = 39
  · rw [if_pos hc] at hfs; obtain ⟨rfl, rfl⟩ := hc; obtain rfl := Option.some.inj hfs; exact fso_slices_Clone_Sub_ok N
  rw [if_neg hc] at hfs
  cases hfs
theorem fo_streams_clone : FunOk Try.prog 28 Try.f28 Try.f28.body.get! := ⟨Try.func28, rfl, by decide, by kernel_rfl⟩
attribute [go_sem] E_streams_clone_T E_streams_clone_F E_streams_clone_G0 E_streams_clone_G1
set_option maxHeartbeats 4000000 in
theorem w_streams_clone (N : Nat) (a0 : Topic) (r : Topic) (h : streams_clone N a0 = some r) : Con Try.prog 28 [] true [.agg [.val (.string a0.Name), .val (.int .i64 a0.First), .sl false none 1 none (a0.Events.map (rowI .i64)), .sl false none 4 none (a0.Subs.map Sub.row)]] (.agg [.val (.string r.Name), .val (.int .i64 r.First), .sl true none 1 none (r.Events.map (rowI .i64)), .sl true none 4 none (r.Subs.map Sub.row)]) := by
  refine fun_ok3 (E := E_streams_clone N) (tiOf_ok Try.prog (E_streams_clone N).G) (E_streams_clone_ok N) mix fo_streams_clone (Nat.le_of_ble_eq_true rfl) ?_
  intro _
  rw [entry_tab (by simp)]
  rw [show entryF [] [.agg [.val (.string a0.Name), .val (.int .i64 a0.First), .sl false none 1 none (a0.Events.map (rowI .i64)), .sl false none 4 none (a0.Subs.map Sub.row)]] = (updT deadT 0 (.agg [.val (.string a0.Name), .val (.int .i64 a0.First), .sl false none 1 none (a0.Events.map (rowI .i64)), .sl false none 4 none (a0.Subs.map Sub.row)])) from by funext t; match t with | 0 => rfl | t + 1 => rfl]
  apply Wk_start
  simp only [Try.f28, Option.get!, R0_RZ]
  unfold streams_clone at h
  refine Wk_seq ?_
  refine Wk_regionZ fun Z hZ => ?_
  simp (config := { maxSteps := 4000000 }) only [go_sem, Nat.reduceLT, Nat.reduceEqDiff, Nat.reduceAdd, Nat.reduceBEq, Nat.reduceMul, Nat.reduceSub, reduceIte, Nat.reduceLeDiff, reduceCtorEq, Int.reduceNeg, Int.reduceToNat, Int.reduceEq, Int.reduceNe, Int.reduceLT, Int.reduceLE]
  refine hZ _ ?_
  repeat (with_reducible first | refine Pop.pop ?_ | refine ap_nil_i ?_ | refine ap_lp_i ?_ | refine ap_bl_next (by decide) ?_)
  refine Wk_seq ?_
  obtain ⟨r1, hr1, h⟩ := Option.bind_eq_some_iff.1 h
  obtain ⟨r2, hr2, h⟩ := Option.bind_eq_some_iff.1 h
  refine Wk_regionD fun Z hZ => ?_
  simp (config := { maxSteps := 4000000 }) only [go_sem, Nat.reduceLT, Nat.reduceEqDiff, Nat.reduceAdd, Nat.reduceBEq, Nat.reduceMul, Nat.reduceSub, reduceIte, Nat.reduceLeDiff, reduceCtorEq, Int.reduceNeg, Int.reduceToNat, Int.reduceEq, Int.reduceNe, Int.reduceLT, Int.reduceLE, hr1, hr2]
  repeat' ((with_reducible refine and_bar ?_ ?_); kernel_rfl)
  refine hZ _ (by kernel_rfl) ?_
  repeat (with_reducible first | refine Pop.pop ?_ | refine ap_nil_i ?_ | refine ap_lp_i ?_ | refine ap_bl_next (by decide) ?_)
  refine Wk_seq ?_
  refine Wk_regionZ fun Z hZ => ?_
  simp (config := { maxSteps := 4000000 }) only [go_sem, Nat.reduceLT, Nat.reduceEqDiff, Nat.reduceAdd, Nat.reduceBEq, Nat.reduceMul, Nat.reduceSub, reduceIte, Nat.reduceLeDiff, reduceCtorEq, Int.reduceNeg, Int.reduceToNat, Int.reduceEq, Int.reduceNe, Int.reduceLT, Int.reduceLE, hr1, hr2]
  refine hZ _ ?_
  repeat (with_reducible first | refine Pop.pop ?_ | refine ap_nil_i ?_ | refine ap_lp_i ?_ | refine ap_bl_next (by decide) ?_)
  refine Wk_ret ?_
  repeat (with_reducible first | refine Pop.pop ?_ | refine ap_nil_i ?_ | refine ap_lp_i ?_ | refine ap_bl_next (by decide) ?_)
  simp (config := { maxSteps := 4000000 }) only [go_sem, Nat.reduceLT, Nat.reduceEqDiff, Nat.reduceAdd, Nat.reduceBEq, Nat.reduceMul, Nat.reduceSub, reduceIte, Nat.reduceLeDiff, reduceCtorEq, Int.reduceNeg, Int.reduceToNat, Int.reduceEq, Int.reduceNe, Int.reduceLT, Int.reduceLE, hr1, hr2, FinW_ret, List.length_set, List.take_length]
  obtain rfl := Option.some.inj h
  exact ⟨_, rfl, (by repeat' (first | exact ROk.refl _ | exact ROk.nil _ | ((refine ROk.of _ ?_ ?_); (focus ((repeat' (first | exact Le.refl _ | exact LeL.nil | exact Le.nils | exact LeLL.refl _ | refine LeLL.mapAppend ?_ ?_ | refine LeLL.cons ?_ ?_ | refine Le.sl ?_ | refine Le.tup ?_ | refine Le.agg ?_ | refine LeL.cons ?_ ?_)); done)); (focus ((repeat' (first | exact NoOwn.val _ | exact NoOwn.sl _ _ _ _ | refine NoOwn.tup ?_ | refine NoOwn.agg ?_ | exact noOwn_nil | refine noOwn_cons ?_ ?_)); done))) | ((refine ROk.own ?_ ?_); (focus ((repeat' (first | exact Le.refl _ | exact LeL.nil | exact Le.nils | exact LeLL.refl _ | refine LeLL.mapAppend ?_ ?_ | refine LeLL.cons ?_ ?_ | refine Le.sl ?_ | refine Le.tup ?_ | refine Le.agg ?_ | refine LeL.cons ?_ ?_)); done)); (focus ((first | exact RowOk.noOwn (rowI_ok .i64) _ | exact RowOk.noOwn Sub.row_ok _); done))) | refine ROk.agg rfl ?_ | refine ROk.tup rfl ?_ | exact rok_nil | refine rok_cons ?_ ?_)), (by (repeat' (first | exact PureC.val _ | refine PureC.tup ?_ | refine PureC.agg ?_ | exact pure_nil | refine pure_cons ?_ ?_ | refine PureC.sl ?_ | exact pure_rows (pure_rowI .i64) _ | exact pure_rows Sub.row_pure _ |  exact pure_rows_nil | refine pure_rows_append ?_ ?_ | refine pure_rows_cons ?_ ?_)))⟩
def fs_streams_clone (N : Nat) : FnS := { own := [], pure := true, fn := fun cs => match cs with
  | [c0] => (Topic.decA c0).bind fun qc0 => (streams_clone N qc0).map fun r => .agg (Topic.row r)
  | _ => none }
theorem fs_streams_clone_own (N : Nat) : (fs_streams_clone N).own = [] := rfl
theorem fs_streams_clone_pure (N : Nat) : (fs_streams_clone N).pure = true := rfl
attribute [go_sem] fs_streams_clone fs_streams_clone_own fs_streams_clone_pure
theorem fs_streams_clone_ok (N : Nat) : FSOk Try.prog 28 (fs_streams_clone N) := by
  refine ⟨fun cs r h => ?_, fun h => by cases h⟩
  simp only [fs_streams_clone] at h
  split at h
  · simp only [Option.bind_eq_some_iff, Option.map_eq_some_iff] at h
    obtain ⟨q0, h0, r', hr, rfl⟩ := h
    exact (((w_streams_clone N q0 r' hr).args (LeL.cons (Topic.decA_le h0) (LeL.nil))).res (by repeat' (first | exact ROk.refl _ | exact ROk.nil _ | ((refine ROk.of _ ?_ ?_); (focus ((repeat' (first | exact Le.refl _ | exact LeL.nil | exact Le.nils | exact LeLL.refl _ | refine LeLL.mapAppend ?_ ?_ | refine LeLL.cons ?_ ?_ | refine Le.sl ?_ | refine Le.tup ?_ | refine Le.agg ?_ | refine LeL.cons ?_ ?_)); done)); (focus ((repeat' (first | exact NoOwn.val _ | exact NoOwn.sl _ _ _ _ | refine NoOwn.tup ?_ | refine NoOwn.agg ?_ | exact noOwn_nil | refine noOwn_cons ?_ ?_)); done))) | ((refine ROk.own ?_ ?_); (focus ((repeat' (first | exact Le.refl _ | exact LeL.nil | exact Le.nils | exact LeLL.refl _ | refine LeLL.mapAppend ?_ ?_ | refine LeLL.cons ?_ ?_ | refine Le.sl ?_ | refine Le.tup ?_ | refine Le.agg ?_ | refine LeL.cons ?_ ?_)); done)); (focus ((first | exact RowOk.noOwn (rowI_ok .i64) _ | exact RowOk.noOwn Sub.row_ok _); done))) | refine ROk.agg rfl ?_ | refine ROk.tup rfl ?_ | exact rok_nil | refine rok_cons ?_ ?_)))
  · cases h

def fso_streams_clone (N : Nat) : FnS := { own := [], pure := true, fn := fun cs => match cs with
  | [c0] => (Topic.decA c0).bind fun qc0 => (streams_clone N qc0).map fun r => .agg [.val (.string r.Name), .val (.int .i64 r.First), .sl true none 1 none (r.Events.map (rowI .i64)), .sl true none 4 none (r.Subs.map Sub.row)]
  | _ => none }
theorem fso_streams_clone_own (N : Nat) : (fso_streams_clone N).own = [] := rfl
theorem fso_streams_clone_pure (N : Nat) : (fso_streams_clone N).pure = true := rfl
attribute [go_sem] fso_streams_clone fso_streams_clone_own fso_streams_clone_pure
theorem fso_streams_clone_ok (N : Nat) : FSOk Try.prog 28 (fso_streams_clone N) := by
  refine ⟨fun cs r h => ?_, fun h => by cases h⟩
  simp only [fso_streams_clone] at h
  split at h
  · simp only [Option.bind_eq_some_iff, Option.map_eq_some_iff] at h
    obtain ⟨q0, h0, r', hr, rfl⟩ := h
    exact ((w_streams_clone N q0 r' hr).args (LeL.cons (Topic.decA_le h0) (LeL.nil)))
  · cases h

end Go.Proofs.Ytpkfhjbgnpdgcaa
end

section
set_option linter.unusedSimpArgs false
set_option linter.unusedVariables false
set_option maxRecDepth 100000
namespace Go.Proofs.Ytpkfhjbgnpdgcaa
open Go Go.Proofs Go.Abs
def fs_overlaps_slices_Insert_Sub : FnS := { own := [true, true], pure := false, fn := fun _ => none, peek := true }
theorem fs_overlaps_slices_Insert_Sub_own : fs_overlaps_slices_Insert_Sub.own = [true, true] := rfl
theorem fs_overlaps_slices_Insert_Sub_peek : fs_overlaps_slices_Insert_Sub.peek = true := rfl
theorem overlaps_slices_Insert_Sub : PeekOk Try.prog 40 :=
  peek_of (fn := Try.f40) (tS := 25) (tR := 4) (e := 54) (size := 4) Try.func40 rfl rfl (by kernel_rfl) (by kernel_rfl) (by kernel_rfl) (by kernel_rfl)
theorem fs_overlaps_slices_Insert_Sub_ok : FSOk Try.prog 40 fs_overlaps_slices_Insert_Sub := ⟨(fun cs r h => by simp [fs_overlaps_slices_Insert_Sub] at h), fun _ => overlaps_slices_Insert_Sub⟩
noncomputable def E_slices_Insert_Sub : Env := { T := tiOf Try.prog, G := fun d f => if d = 67 ∧ f = 40 then some fs_overlaps_slices_Insert_Sub else none }
theorem E_slices_Insert_Sub_T : E_slices_Insert_Sub.T = tiOf Try.prog := rfl
theorem E_slices_Insert_Sub_F (d : Nat) : E_slices_Insert_Sub.F d = none := rfl
theorem E_slices_Insert_Sub_G : E_slices_Insert_Sub.G 67 40 = some fs_overlaps_slices_Insert_Sub := rfl
theorem E_slices_Insert_Sub_ok : GOk Try.prog { T := tiOf Try.prog, G := E_slices_Insert_Sub.G } := by
  intro d f fs hfs
  simp only [E_slices_Insert_Sub] at hfs
  split at hfs
  · rename_i hc; obtain ⟨rfl, rfl⟩ := hc; obtain rfl := Option.some.inj hfs; exact fs_overlaps_slices_Insert_Sub_ok
  cases hfs
theorem fo_slices_Insert_Sub : FunOk Try.prog 31 Try.f31 Try.f31.body.get! := ⟨Try.func31, rfl, by decide, by kernel_rfl⟩
set_option maxHeartbeats 4000000 in
theorem w1_slices_Insert_Sub {α : Type} (row : α → List C) (ok : RowOk row) (l : List α) (i : Nat) (x : α) (k : Nat) (r : List α) (hr : r = l.take i ++ [x] ++ l.drop i) (hi : i ≤ l.length) (hsz : (l.length + 1) * 57 ≤ 140737488355328) (hk1 : l.length ≤ k) (hk2 : k ≤ maxLen) :
    Con Try.prog 31 [true, false, true] false [.sl true none 4 (some k) (l.map row), .val (.int .i64 i), .sl true none 4 none ([x].map row)] (.sl true none 4 none (r.map row)) := by
  refine fun_own (E := E_slices_Insert_Sub) (tiOf_ok Try.prog _) E_slices_Insert_Sub_ok mix fo_slices_Insert_Sub (Nat.le_of_ble_eq_true rfl) ?_
  intro _
  rw [entry_tab (by simp)]
  rw [show entryF [true, false, true] [C.sl true none 4 (some k) (l.map row), C.val (.int .i64 i), C.sl true none 4 none ([x].map row)] = (updT (updT (updT deadT 0 (.pal 0 [] 0 l.length none)) 1 (.val (.int .i64 i))) 2 (.pal 2 [] 0 1 none)) from by funext t; match t with | 0 => simp [entryF, entryTmp, viewD, updT] | 1 => rfl | 2 => rfl | t + 3 => rfl]
  rw [show R0 [true, false, true] [C.sl true none 4 (some k) (l.map row), C.val (.int .i64 i), C.sl true none 4 none ([x].map row)] = upd (upd RZ 0 (C.sl true none 4 (some k) (l.map row))) 2 (C.sl true none 4 none ([x].map row)) from by funext t; match t with | 0 => rfl | 1 => rfl | 2 => rfl | t + 3 => rfl]
  apply W_start
  simp only [Try.f31, Option.get!]
  have hi1 : (i : Int) ≤ (l.length : Int) := by omega
  have hi2 : i ≤ l.length := hi
  have h10 : (((1 : Nat) : Int) = 0) = False := by simp
  have hp : (row x).all Abs.plainCell = true := ok.plain x
  have hf : (row x).map C.frz = (row x) := ok.frz x
  have hpD : (row x).all plainD = true := by have := (RowOk.allD ok [x]); simpa using this
  have hw1 : IntKind.i64.wrap ((l.length : Int) + ((1 : Nat) : Int)) = ((l.length + 1 : Nat) : Int) := by rw [wrap64_in (by omega) (by omega)]; rfl
  have hlt0 : (l.take i).length = i := by simp; omega
  have hes : (4 != 0) = true := rfl
  have hm1 : min 1 (l.length + 1 - i) = 1 := by omega
  have hm2 : min (l.length - i) (l.length + 1 - (i + 1)) = l.length - i := by omega
  have hm3 : (l.drop i).take (l.length - i) = l.drop i := List.take_of_length_le (by simp)
  have hm4 : i + 1 ≤ l.length + 1 := by omega
  have hw2 : IntKind.i64.wrap (((l.length + 1 : Nat) : Int) - (i : Int)) = ((l.length + 1 - i : Nat) : Int) := by rw [wrap64_in (by omega) (by omega)]; omega
  have hw3 : IntKind.i64.wrap ((i : Int) + ((1 : Nat) : Int)) = ((i + 1 : Nat) : Int) := by rw [wrap64_in (by omega) (by omega)]; rfl
  simp only [go_sem, Nat.reduceLT, Nat.reduceEqDiff, Nat.reduceAdd, Nat.reduceBEq, Nat.reduceMul, Nat.reduceSub, reduceIte, Nat.reduceLeDiff, reduceCtorEq, Int.reduceNeg, Int.reduceToNat, Int.reduceEq, Int.reduceNe, Int.reduceLT, Int.reduceLE, E_slices_Insert_Sub_T, E_slices_Insert_Sub_F, E_slices_Insert_Sub_G, hi1, hi2, h10, Nat.le_refl, hp, hf, hpD, RowOk.frzRows ok, RowOk.all ok, RowOk.allPlain ok, RowOk.allD ok, rewritten, RX_cap, RX_copy, altX, roomS, roomC, cutC, copyX, resliceX, appendNewX, extOf, Ext.all, peekX, isOwnRoot, Option.map_some, hw1, hw2, hw3, Nat.zero_le, Nat.sub_zero, deepV, bne_self_eq_false, List.isEmpty_nil, decide_not, List.length_replicate, hlt0, hm1, hm2, hm3, hm4, fs_overlaps_slices_Insert_Sub_own, fs_overlaps_slices_Insert_Sub_peek, Nat.not_succ_le_self]
  refine W_cond_f rfl ?_
  simp only [go_sem, Nat.reduceLT, Nat.reduceEqDiff, Nat.reduceAdd, Nat.reduceBEq, Nat.reduceMul, Nat.reduceSub, reduceIte, Nat.reduceLeDiff, reduceCtorEq, Int.reduceNeg, Int.reduceToNat, Int.reduceEq, Int.reduceNe, Int.reduceLT, Int.reduceLE, E_slices_Insert_Sub_T, E_slices_Insert_Sub_F, E_slices_Insert_Sub_G, hi1, hi2, h10, Nat.le_refl, hp, hf, hpD, RowOk.frzRows ok, RowOk.all ok, RowOk.allPlain ok, RowOk.allD ok, rewritten, RX_cap, RX_copy, altX, roomS, roomC, cutC, copyX, resliceX, appendNewX, extOf, Ext.all, peekX, isOwnRoot, Option.map_some, hw1, hw2, hw3, Nat.zero_le, Nat.sub_zero, deepV, bne_self_eq_false, List.isEmpty_nil, decide_not, List.length_replicate, hlt0, hm1, hm2, hm3, hm4, fs_overlaps_slices_Insert_Sub_own, fs_overlaps_slices_Insert_Sub_peek, Nat.not_succ_le_self]
  refine W_cond_dec rfl (fun hc => ?_) (fun hc => ?_)
  · have e : i = l.length := by omega
    subst e
    simp only [go_sem, Nat.reduceLT, Nat.reduceEqDiff, Nat.reduceAdd, Nat.reduceBEq, Nat.reduceMul, Nat.reduceSub, reduceIte, Nat.reduceLeDiff, reduceCtorEq, Int.reduceNeg, Int.reduceToNat, Int.reduceEq, Int.reduceNe, Int.reduceLT, Int.reduceLE, E_slices_Insert_Sub_T, E_slices_Insert_Sub_F, E_slices_Insert_Sub_G, hi1, hi2, h10, Nat.le_refl, hp, hf, hpD, RowOk.frzRows ok, RowOk.all ok, RowOk.allPlain ok, RowOk.allD ok, rewritten, RX_cap, RX_copy, altX, roomS, roomC, cutC, copyX, resliceX, appendNewX, extOf, Ext.all, peekX, isOwnRoot, Option.map_some, hw1, hw2, hw3, Nat.zero_le, Nat.sub_zero, deepV, bne_self_eq_false, List.isEmpty_nil, decide_not, List.length_replicate, hlt0, hm1, hm2, hm3, hm4, fs_overlaps_slices_Insert_Sub_own, fs_overlaps_slices_Insert_Sub_peek, Nat.not_succ_le_self, FinO_ret, FinO_normal, hsz]
    refine fin_own ok ?_
    rw [hr]
    simp [List.take_of_length_le]
  · have hc1 : decide ((i : Int) = (l.length : Int)) = false := decide_eq_false hc
    have hlt : i < l.length := by omega
    simp only [go_sem, Nat.reduceLT, Nat.reduceEqDiff, Nat.reduceAdd, Nat.reduceBEq, Nat.reduceMul, Nat.reduceSub, reduceIte, Nat.reduceLeDiff, reduceCtorEq, Int.reduceNeg, Int.reduceToNat, Int.reduceEq, Int.reduceNe, Int.reduceLT, Int.reduceLE, E_slices_Insert_Sub_T, E_slices_Insert_Sub_F, E_slices_Insert_Sub_G, hi1, hi2, h10, Nat.le_refl, hp, hf, hpD, RowOk.frzRows ok, RowOk.all ok, RowOk.allPlain ok, RowOk.allD ok, rewritten, RX_cap, RX_copy, altX, roomS, roomC, cutC, copyX, resliceX, appendNewX, extOf, Ext.all, peekX, isOwnRoot, Option.map_some, hw1, hw2, hw3, Nat.zero_le, Nat.sub_zero, deepV, bne_self_eq_false, List.isEmpty_nil, decide_not, List.length_replicate, hlt0, hm1, hm2, hm3, hm4, fs_overlaps_slices_Insert_Sub_own, fs_overlaps_slices_Insert_Sub_peek, Nat.not_succ_le_self, hc1]
    refine W_cond_dec rfl (fun hk => ?_) (fun hk => ?_)
    · have hk1 : decide (k < l.length + 1) = true := decide_eq_true hk
      have hk2 : k < i + (l.length + 1 - i) := by omega
      have e1 : i + (l.length + 1 - i) = l.length + 1 := by omega
      have hi3 : (i : Int) ≤ ((l.length + 1 : Nat) : Int) := by omega
      have hi4 : i ≤ l.length + 1 := by omega
      obtain ⟨A, hA⟩ : ∃ A, List.map row (List.take i l) ++ List.replicate (l.length + 1 - i) [C.val (Value.string ⟨#[]⟩), C.val (Value.string ⟨#[]⟩), C.val (Value.string ⟨#[]⟩), C.val (Value.int .i64 0)] = A := ⟨_, rfl⟩
      have hAp : plainL' A := by rw [← hA]; exact plainL'_append (plainL'_map ok _) (plainL'_vals _ [Value.string ⟨#[]⟩, Value.string ⟨#[]⟩, Value.string ⟨#[]⟩, Value.int .i64 0] (by simp [Value.oneCell']))
      have hAl : A.length = l.length + 1 := by rw [← hA, List.length_append, List.length_map, hlt0, List.length_replicate]; omega
      obtain ⟨B, hB⟩ : ∃ B, setRows A i [(row x)] = B := ⟨_, rfl⟩
      have hBp : plainL' B := by rw [← hB]; exact plainL'_set hAp ⟨by simp [frzRows, hf], by simp [hpD]⟩
      have hBl : B.length = l.length + 1 := by rw [← hB]; simp [setRows, hAl]; omega
      obtain ⟨D, hD⟩ : ∃ D, setRows B (i + 1) (List.map row (List.drop i l)) = D := ⟨_, rfl⟩
      have hDp : plainL' D := by rw [← hD]; exact plainL'_set hBp (plainL'_map ok _)
      have hDl : D.length = l.length + 1 := by rw [← hD]; simp [setRows, hBl]; omega
      have hDe : D = (l.take i ++ [x] ++ l.drop i).map row := by
        rw [← hD, ← hB, ← hA, List.map_take, List.map_drop, ins_new (A := l.map row) (n := l.length) (by simp) hi2 (by simp)]
        simp
      simp only [go_sem, Nat.reduceLT, Nat.reduceEqDiff, Nat.reduceAdd, Nat.reduceBEq, Nat.reduceMul, Nat.reduceSub, reduceIte, Nat.reduceLeDiff, reduceCtorEq, Int.reduceNeg, Int.reduceToNat, Int.reduceEq, Int.reduceNe, Int.reduceLT, Int.reduceLE, E_slices_Insert_Sub_T, E_slices_Insert_Sub_F, E_slices_Insert_Sub_G, hi1, hi2, h10, Nat.le_refl, hp, hf, hpD, RowOk.frzRows ok, RowOk.all ok, RowOk.allPlain ok, RowOk.allD ok, rewritten, RX_cap, RX_copy, altX, roomS, roomC, cutC, copyX, resliceX, appendNewX, extOf, Ext.all, peekX, isOwnRoot, Option.map_some, hw1, hw2, hw3, Nat.zero_le, Nat.sub_zero, deepV, bne_self_eq_false, List.isEmpty_nil, decide_not, List.length_replicate, hlt0, hm1, hm2, hm3, hm4, fs_overlaps_slices_Insert_Sub_own, fs_overlaps_slices_Insert_Sub_peek, Nat.not_succ_le_self, hc1, hk1, hk, hk2, e1, hi3, hi4, hA, hAl, hAp.1, hAp.2, hB, hBp.1, hBp.2, hBl, hD, hDp.1, hDp.2, hsz]
      repeat' ((with_reducible refine and_bar ?_ ?_); kernel_rfl)
      simp only [go_sem, Nat.reduceLT, Nat.reduceEqDiff, Nat.reduceAdd, Nat.reduceBEq, Nat.reduceMul, Nat.reduceSub, reduceIte, Nat.reduceLeDiff, reduceCtorEq, Int.reduceNeg, Int.reduceToNat, Int.reduceEq, Int.reduceNe, Int.reduceLT, Int.reduceLE, E_slices_Insert_Sub_T, E_slices_Insert_Sub_F, E_slices_Insert_Sub_G, hi1, hi2, h10, Nat.le_refl, hp, hf, hpD, RowOk.frzRows ok, RowOk.all ok, RowOk.allPlain ok, RowOk.allD ok, rewritten, RX_cap, RX_copy, altX, roomS, roomC, cutC, copyX, resliceX, appendNewX, extOf, Ext.all, peekX, isOwnRoot, Option.map_some, hw1, hw2, hw3, Nat.zero_le, Nat.sub_zero, deepV, bne_self_eq_false, List.isEmpty_nil, decide_not, List.length_replicate, hlt0, hm1, hm2, hm3, hm4, fs_overlaps_slices_Insert_Sub_own, fs_overlaps_slices_Insert_Sub_peek, Nat.not_succ_le_self, FinO_ret, FinO_normal, hDp.1, hDp.2, hD]
      refine fin_own ok ?_
      rw [hr, ← hDe, ← hDl, List.take_length]
    · have hk1 : decide (k < l.length + 1) = false := decide_eq_false hk
      have hk2 : ¬ k < i + (l.length + 1 - i) := by omega
      have hk3 : l.length + 1 ≤ k := by omega
      have e2 : l.length + 1 - l.length = 1 := by omega
      have e3 : l.length ≤ l.length + 1 := by omega
      have hi3 : (i : Int) ≤ ((l.length + 1 : Nat) : Int) := by omega
      have hi4 : i ≤ l.length + 1 := by omega
      have hne : ¬ l.length + 1 - (i + 1) = 0 := by omega
      obtain ⟨A, hA⟩ : ∃ A, List.map row l ++ [[C.dead, C.dead, C.dead, C.dead]] = A := ⟨_, rfl⟩
      have hAp : plainL' A := by rw [← hA]; exact plainL'_append (plainL'_map ok _) (plainL'_dead 1 4)
      have hAl : A.length = l.length + 1 := by rw [← hA]; simp
      have hm5 : min (l.length + 1 - i) (l.length + 1 - (i + 1)) = l.length - i := by omega
      obtain ⟨A2, hA2⟩ : ∃ A2, (A.drop i).take (l.length - i) = A2 := ⟨_, rfl⟩
      have hA2e : A2 = List.map row (l.drop i) := by
        rw [← hA2, ← hA, List.drop_append, List.length_map, show i - l.length = 0 by omega, List.drop_zero, List.take_append, List.take_of_length_le (by simp), show l.length - i - (List.drop i (List.map row l)).length = 0 by simp]
        simp [List.map_drop]
      have hA2p : (A2.all fun r => r.all Abs.plainCell) = true := by rw [hA2e]; exact ok.allPlain _
      have hA2f : frzRows A2 = A2 := by rw [hA2e]; exact ok.frzRows _
      have hA2d : plainL' A2 := by rw [hA2e]; exact plainL'_map ok _
      obtain ⟨B, hB⟩ : ∃ B, setRows A (i + 1) A2 = B := ⟨_, rfl⟩
      have hBp : plainL' B := by rw [← hB]; exact plainL'_set hAp hA2d
      have hBl : B.length = l.length + 1 := by rw [← hB]; simp [setRows, hAl, hA2e]; omega
      obtain ⟨D, hD⟩ : ∃ D, setRows B i [(row x)] = D := ⟨_, rfl⟩
      have hDp : plainL' D := by rw [← hD]; exact plainL'_set hBp ⟨by simp [frzRows, hf], by simp [hpD]⟩
      have hDl : D.length = l.length + 1 := by rw [← hD]; simp [setRows, hBl]; omega
      have hDe : D = (l.take i ++ [x] ++ l.drop i).map row := by
        rw [← hD, ← hB, ← hA2, ← hA, ins_here (A := l.map row) (n := l.length) (by simp) hi2]
        simp [List.map_take, List.map_drop]
      simp only [go_sem, Nat.reduceLT, Nat.reduceEqDiff, Nat.reduceAdd, Nat.reduceBEq, Nat.reduceMul, Nat.reduceSub, reduceIte, Nat.reduceLeDiff, reduceCtorEq, Int.reduceNeg, Int.reduceToNat, Int.reduceEq, Int.reduceNe, Int.reduceLT, Int.reduceLE, E_slices_Insert_Sub_T, E_slices_Insert_Sub_F, E_slices_Insert_Sub_G, hi1, hi2, h10, Nat.le_refl, hp, hf, hpD, RowOk.frzRows ok, RowOk.all ok, RowOk.allPlain ok, RowOk.allD ok, rewritten, RX_cap, RX_copy, altX, roomS, roomC, cutC, copyX, resliceX, appendNewX, extOf, Ext.all, peekX, isOwnRoot, Option.map_some, hw1, hw2, hw3, Nat.zero_le, Nat.sub_zero, deepV, bne_self_eq_false, List.isEmpty_nil, decide_not, List.length_replicate, hlt0, hm1, hm2, hm3, hm4, fs_overlaps_slices_Insert_Sub_own, fs_overlaps_slices_Insert_Sub_peek, Nat.not_succ_le_self, hc1, hk1, hk, hk2, hk3, e2, e3, hi3, hi4, hne, hA, hAl, hAp.1, hAp.2, hes, hA2, hA2p, hA2f, hB, hBp.1, hBp.2, hBl, hD, hDp.1, hDp.2, hDl, hm5]
      refine W_cond_t rfl ?_
      simp only [go_sem, Nat.reduceLT, Nat.reduceEqDiff, Nat.reduceAdd, Nat.reduceBEq, Nat.reduceMul, Nat.reduceSub, reduceIte, Nat.reduceLeDiff, reduceCtorEq, Int.reduceNeg, Int.reduceToNat, Int.reduceEq, Int.reduceNe, Int.reduceLT, Int.reduceLE, E_slices_Insert_Sub_T, E_slices_Insert_Sub_F, E_slices_Insert_Sub_G, hi1, hi2, h10, Nat.le_refl, hp, hf, hpD, RowOk.frzRows ok, RowOk.all ok, RowOk.allPlain ok, RowOk.allD ok, rewritten, RX_cap, RX_copy, altX, roomS, roomC, cutC, copyX, resliceX, appendNewX, extOf, Ext.all, peekX, isOwnRoot, Option.map_some, hw1, hw2, hw3, Nat.zero_le, Nat.sub_zero, deepV, bne_self_eq_false, List.isEmpty_nil, decide_not, List.length_replicate, hlt0, hm1, hm2, hm3, hm4, fs_overlaps_slices_Insert_Sub_own, fs_overlaps_slices_Insert_Sub_peek, Nat.not_succ_le_self, hc1, hk1, hk, hk2, hk3, e2, e3, hi3, hi4, hne, hA, hAl, hAp.1, hAp.2, hes, hA2, hA2p, hA2f, hB, hBp.1, hBp.2, hBl, hD, hDp.1, hDp.2, hDl, hm5]
      repeat' ((with_reducible refine and_bar ?_ ?_); kernel_rfl)
      simp only [go_sem, Nat.reduceLT, Nat.reduceEqDiff, Nat.reduceAdd, Nat.reduceBEq, Nat.reduceMul, Nat.reduceSub, reduceIte, Nat.reduceLeDiff, reduceCtorEq, Int.reduceNeg, Int.reduceToNat, Int.reduceEq, Int.reduceNe, Int.reduceLT, Int.reduceLE, E_slices_Insert_Sub_T, E_slices_Insert_Sub_F, E_slices_Insert_Sub_G, hi1, hi2, h10, Nat.le_refl, hp, hf, hpD, RowOk.frzRows ok, RowOk.all ok, RowOk.allPlain ok, RowOk.allD ok, rewritten, RX_cap, RX_copy, altX, roomS, roomC, cutC, copyX, resliceX, appendNewX, extOf, Ext.all, peekX, isOwnRoot, Option.map_some, hw1, hw2, hw3, Nat.zero_le, Nat.sub_zero, deepV, bne_self_eq_false, List.isEmpty_nil, decide_not, List.length_replicate, hlt0, hm1, hm2, hm3, hm4, fs_overlaps_slices_Insert_Sub_own, fs_overlaps_slices_Insert_Sub_peek, Nat.not_succ_le_self, FinO_ret, FinO_normal, hDp.1, hDp.2, hD, hDl]
      refine fin_own ok ?_
      rw [hr, ← hDe, ← hDl, List.take_length]
theorem w_slices_Insert_Sub (N : Nat) (a0 : List Sub) (a1 : Int) (a2 : List Sub) (r : List Sub) (h : slices_Insert_Sub N a0 a1 a2 = some r) :
    Con Try.prog 31 [true, false, true] false [.sl true none 4 none (a0.map Sub.row), .val (.int .i64 a1), .sl true none 4 none (a2.map Sub.row)] (.sl true none 4 none (r.map Sub.row)) := by
  unfold slices_Insert_Sub at h
  obtain ⟨n, x, rfl, rfl, h1, h2, h3⟩ := insM_some h
  exact Con_cap fun k hk1 hk2 => w1_slices_Insert_Sub Sub.row Sub.row_ok a0 n x k r (Option.some.inj h3).symm h1 h2 (by simpa using hk1) hk2
def fso_slices_Insert_Sub (N : Nat) : FnS := { own := [true, false, true], pure := false, fn := fun cs => match cs with
  | [c0, c1, c2] => (decO 4 Sub.dec c0).bind fun q0 => (decI .i64 c1).bind fun q1 => (decO 4 Sub.dec c2).bind fun q2 => (slices_Insert_Sub N q0 q1 q2).map fun r => .sl true none 4 none (r.map Sub.row)
  | _ => none }
theorem fso_slices_Insert_Sub_own (N : Nat) : (fso_slices_Insert_Sub N).own = [true, false, true] := rfl
theorem fso_slices_Insert_Sub_pure (N : Nat) : (fso_slices_Insert_Sub N).pure = false := rfl
theorem fso_slices_Insert_Sub_peek (N : Nat) : (fso_slices_Insert_Sub N).peek = false := rfl
attribute [go_sem] fso_slices_Insert_Sub fso_slices_Insert_Sub_own fso_slices_Insert_Sub_pure fso_slices_Insert_Sub_peek
theorem fso_slices_Insert_Sub_ok (N : Nat) : FSOk Try.prog 31 (fso_slices_Insert_Sub N) := by
  refine ⟨fun cs r h => ?_, fun h => by cases h⟩
  simp only [fso_slices_Insert_Sub] at h
  split at h
  · simp only [Option.bind_eq_some_iff, Option.map_eq_some_iff] at h
    obtain ⟨q0, h0, q1, h1, q2, h2, r', hr, rfl⟩ := h
    exact (w_slices_Insert_Sub N q0 q1 q2 r' hr).argsO rfl (argsO_own (decO_ok Sub.row_ok Sub.dec_le h0) (argsO_le (decI_le h1) (argsO_own (decO_ok Sub.row_ok Sub.dec_le h2) argsO_nil)))
  · cases h

end Go.Proofs.Ytpkfhjbgnpdgcaa
end

section
set_option linter.unusedSimpArgs false
set_option linter.unusedVariables false
set_option maxRecDepth 100000
namespace Go.Proofs.Ytpkfhjbgnpdgcaa
open Go Go.Proofs Go.Abs
noncomputable def E_streams_Subscribe (N : Nat) : Env := { T := tiOf Try.prog, G := fun d f => if d = 12 ∧ f = 19 then some (fs_streams_Valid N) else if d = 17 ∧ f = 29 then some (fs_streams_validKey N) else if d = 25 ∧ f = 30 then some (fs_streams_find N) else if d = 38 ∧ f = 17 then some (fs_streams_End N) else if d = 40 ∧ f = 28 then some (fso_streams_clone N) else if d = 49 ∧ f = 31 then some (fso_slices_Insert_Sub N) else none, F := fun d => none }
theorem E_streams_Subscribe_F (N : Nat) (d : Nat) : (E_streams_Subscribe N).F d = none := rfl
theorem E_streams_Subscribe_T (N : Nat) : (E_streams_Subscribe N).T = tiOf Try.prog := rfl
theorem E_streams_Subscribe_G0 (N : Nat) : (E_streams_Subscribe N).G 12 19 = some (fs_streams_Valid N) := rfl
theorem E_streams_Subscribe_G1 (N : Nat) : (E_streams_Subscribe N).G 17 29 = some (fs_streams_validKey N) := rfl
theorem E_streams_Subscribe_G2 (N : Nat) : (E_streams_Subscribe N).G 25 30 = some (fs_streams_find N) := rfl
theorem E_streams_Subscribe_G3 (N : Nat) : (E_streams_Subscribe N).G 38 17 = some (fs_streams_End N) := rfl
theorem E_streams_Subscribe_G4 (N : Nat) : (E_streams_Subscribe N).G 40 28 = some (fso_streams_clone N) := rfl
theorem E_streams_Subscribe_G5 (N : Nat) : (E_streams_Subscribe N).G 49 31 = some (fso_slices_Insert_Sub N) := rfl
theorem E_streams_Subscribe_ok (N : Nat) : GOk Try.prog { T := tiOf Try.prog, G := (E_streams_Subscribe N).G } := by
  intro d f fs hfs
  simp only [E_streams_Subscribe] at hfs
  by_cases hc : d = 12 ∧ f = 19
  · rw [if_pos hc] at hfs; obtain ⟨rfl, rfl⟩ := hc; obtain rfl := Option.some.inj hfs; exact fs_streams_Valid_ok N
  rw [if_neg hc] at hfs
  by_cases hc : d = 17 ∧ f = 29
  · rw [if_pos hc] at hfs; obtain ⟨rfl, rfl⟩ := hc; obtain rfl := Option.some.inj hfs; exact fs_streams_validKey_ok N
  rw [if_neg hc] at hfs
  by_cases hc : d = 25 ∧ f = 30
  · rw [if_pos hc] at hfs; obtain ⟨rfl, rfl⟩ := hc; obtain rfl := Option.some.inj hfs; exact fs_streams_find_ok N
  rw [if_neg hc] at hfs
  by_cases hc : d = 38 ∧ f = 17
  · rw [if_pos hc] at hfs; obtain ⟨rfl, rfl⟩ := hc; obtain rfl := Option.some.inj hfs; exact fs_streams_End_ok N
  rw [if_neg hc] at hfs
  by_cases hc : d = 40 ∧ f = 28
  · rw [if_pos hc] at hfs; obtain ⟨rfl, rfl⟩ := hc; obtain rfl := Option.some.inj hfs; exact fso_streams_clone_ok N
  rw [if_neg hc] at hfs
  by_cases hc : d = 49 ∧ f = 31
  · rw [if_pos hc] at hfs; obtain ⟨rfl, rfl⟩ := hc; obtain rfl := Option.some.inj hfs; exact fso_slices_Insert_Sub_ok N
  rw [if_neg hc] at hfs
  cases hfs
theorem fo_streams_Subscribe : FunOk Try.prog 11 Try.f11 Try.f11.body.get! := ⟨Try.func11, rfl, by decide, by kernel_rfl⟩
attribute [go_sem] E_streams_Subscribe_T E_streams_Subscribe_F E_streams_Subscribe_G0 E_streams_Subscribe_G1 E_streams_Subscribe_G2 E_streams_Subscribe_G3 E_streams_Subscribe_G4 E_streams_Subscribe_G5
set_option maxHeartbeats 4000000 in
theorem w_streams_Subscribe (N : Nat) (a0 : Topic) (a1 : Ref) (a2 : ByteArray) (r : Topic × Int) (h : streams_Subscribe N a0 a1 a2 = some r) : Con Try.prog 11 [] true [.agg [.val (.string a0.Name), .val (.int .i64 a0.First), .sl false none 1 none (a0.Events.map (rowI .i64)), .sl false none 4 none (a0.Subs.map Sub.row)], .agg [.val (.string a1.Type_), .val (.string a1.Key)], .val (.string a2)] (.tup [.agg [.val (.string r.1.Name), .val (.int .i64 r.1.First), .sl true none 1 none (r.1.Events.map (rowI .i64)), .sl true none 4 none (r.1.Subs.map Sub.row)], .val (.int .i64 r.2)]) := by
  refine fun_ok3 (E := E_streams_Subscribe N) (tiOf_ok Try.prog (E_streams_Subscribe N).G) (E_streams_Subscribe_ok N) mix fo_streams_Subscribe (Nat.le_of_ble_eq_true rfl) ?_
  intro _
  rw [entry_tab (by simp)]
  rw [show entryF [] [.agg [.val (.string a0.Name), .val (.int .i64 a0.First), .sl false none 1 none (a0.Events.map (rowI .i64)), .sl false none 4 none (a0.Subs.map Sub.row)], .agg [.val (.string a1.Type_), .val (.string a1.Key)], .val (.string a2)] = (updT (updT (updT deadT 0 (.agg [.val (.string a0.Name), .val (.int .i64 a0.First), .sl false none 1 none (a0.Events.map (rowI .i64)), .sl false none 4 none (a0.Subs.map Sub.row)])) 1 (.agg [.val (.string a1.Type_), .val (.string a1.Key)])) 2 (.val (.string a2))) from by funext t; match t with | 0 => rfl | 1 => rfl | 2 => rfl | t + 3 => rfl]
  apply Wk_start
  simp only [Try.f11, Option.get!, R0_RZ]
  unfold streams_Subscribe at h
  refine Wk_seq ?_
  refine Wk_regionZ fun Z hZ => ?_
  simp (config := { maxSteps := 4000000 }) only [go_sem, Nat.reduceLT, Nat.reduceEqDiff, Nat.reduceAdd, Nat.reduceBEq, Nat.reduceMul, Nat.reduceSub, reduceIte, Nat.reduceLeDiff, reduceCtorEq, Int.reduceNeg, Int.reduceToNat, Int.reduceEq, Int.reduceNe, Int.reduceLT, Int.reduceLE]
  refine hZ _ ?_
  repeat (with_reducible first | refine Pop.pop ?_ | refine ap_nil_i ?_ | refine ap_lp_i ?_ | refine ap_bl_next (by decide) ?_)
  refine Wk_seq ?_
  apply Wk_join1 (fun (c7 : Bool) => ⟨tab 52 (updT (updT (updT (updT (updT deadT 2 (.val (.string a2))) 3 (.pref 3 [] 0 0)) 4 (.pref 4 [] 0 0)) 6 (.pref 6 [] 0 0)) 19 (.val (.bool c7))), (upd (upd (upd RZ 3 (.sl true none 4 (some 1) [[.val (.string a0.Name), .val (.int .i64 a0.First), .sl false none 1 none (a0.Events.map (rowI .i64)), .sl false none 4 none (a0.Subs.map Sub.row)]])) 4 (.sl true none 2 (some 1) [[.val (.string a1.Type_), .val (.string a1.Key)]])) 6 (.sl true none 4 (some 1) [[.val (.string (⟨#[]⟩)), .val (.int .i64 0), .val (.slice none 0 0), .val (.slice none 0 0)]]))⟩)
  · intro hJ1
    obtain ⟨r8, hr2, h⟩ := Option.bind_eq_some_iff.1 h
    refine Wk_regionZ fun Z hZ => ?_
    simp (config := { maxSteps := 4000000 }) only [go_sem, Nat.reduceLT, Nat.reduceEqDiff, Nat.reduceAdd, Nat.reduceBEq, Nat.reduceMul, Nat.reduceSub, reduceIte, Nat.reduceLeDiff, reduceCtorEq, Int.reduceNeg, Int.reduceToNat, Int.reduceEq, Int.reduceNe, Int.reduceLT, Int.reduceLE, hr2]
    refine RX_guard_nbool rfl (fun hc3 => ?_) (fun hc3 => ?_)
    · first | rw [if_neg (ne_true_of_eq_false hc3)] at h | simp only [hc3, Bool.or_false, Bool.or_true, Bool.false_or, Bool.true_or, Bool.and_true, Bool.true_and, Bool.and_false, Bool.false_and, Bool.not_true, Bool.not_false, Bool.false_eq_true, if_true, if_false] at h
      simp (config := { maxSteps := 4000000 }) only [go_sem, Nat.reduceLT, Nat.reduceEqDiff, Nat.reduceAdd, Nat.reduceBEq, Nat.reduceMul, Nat.reduceSub, reduceIte, Nat.reduceLeDiff, reduceCtorEq, Int.reduceNeg, Int.reduceToNat, Int.reduceEq, Int.reduceNe, Int.reduceLT, Int.reduceLE, hr2, hc3]
      refine hZ _ ?_
      repeat (with_reducible first | refine Pop.pop ?_ | refine ap_nil_i ?_ | refine ap_lp_i ?_ | refine ap_bl_next (by decide) ?_)
      refine hJ1 _ true ?_ h
      refine weak_roots ?_ ?_
      · (repeat' (first | exact weakX_nil | refine weakX_cons ?_ ?_)) <;> (first | rfl | simp only [go_sem, Nat.reduceLT, Nat.reduceEqDiff, Nat.reduceAdd, Nat.reduceBEq, Nat.reduceMul, Nat.reduceSub, reduceIte, Nat.reduceLeDiff, reduceCtorEq, Int.reduceNeg, Int.reduceToNat, Int.reduceEq, Int.reduceNe, Int.reduceLT, Int.reduceLE, Bool.or_self, List.length_set, Int.natCast_zero, Int.cast_ofNat_Int, hr2, hc3])
      · (repeat' (first | exact weakR_nil | refine weakR_cons ?_ ?_ ?_)) <;> (first | rfl | simp only [go_sem, Nat.reduceLT, Nat.reduceEqDiff, Nat.reduceAdd, Nat.reduceBEq, Nat.reduceMul, Nat.reduceSub, reduceIte, Nat.reduceLeDiff, reduceCtorEq, Int.reduceNeg, Int.reduceToNat, Int.reduceEq, Int.reduceNe, Int.reduceLT, Int.reduceLE, Bool.or_self, List.length_set, Int.natCast_zero, Int.cast_ofNat_Int, hr2, hc3])
    · first | rw [if_pos hc3] at h | simp only [hc3, Bool.or_false, Bool.or_true, Bool.false_or, Bool.true_or, Bool.and_true, Bool.true_and, Bool.and_false, Bool.false_and, Bool.not_true, Bool.not_false, Bool.false_eq_true, if_true, if_false] at h
      obtain ⟨r9, hr4, h⟩ := Option.bind_eq_some_iff.1 h
      simp (config := { maxSteps := 4000000 }) only [go_sem, Nat.reduceLT, Nat.reduceEqDiff, Nat.reduceAdd, Nat.reduceBEq, Nat.reduceMul, Nat.reduceSub, reduceIte, Nat.reduceLeDiff, reduceCtorEq, Int.reduceNeg, Int.reduceToNat, Int.reduceEq, Int.reduceNe, Int.reduceLT, Int.reduceLE, hr2, hc3, hr4]
      refine hZ _ ?_
      repeat (with_reducible first | refine Pop.pop ?_ | refine ap_nil_i ?_ | refine ap_lp_i ?_ | refine ap_bl_next (by decide) ?_)
      refine hJ1 _ (!r9) ?_ h
      refine weak_roots ?_ ?_
      · (repeat' (first | exact weakX_nil | refine weakX_cons ?_ ?_)) <;> (first | rfl | simp only [go_sem, Nat.reduceLT, Nat.reduceEqDiff, Nat.reduceAdd, Nat.reduceBEq, Nat.reduceMul, Nat.reduceSub, reduceIte, Nat.reduceLeDiff, reduceCtorEq, Int.reduceNeg, Int.reduceToNat, Int.reduceEq, Int.reduceNe, Int.reduceLT, Int.reduceLE, Bool.or_self, List.length_set, Int.natCast_zero, Int.cast_ofNat_Int, hr2, hc3, hr4])
      · (repeat' (first | exact weakR_nil | refine weakR_cons ?_ ?_ ?_)) <;> (first | rfl | simp only [go_sem, Nat.reduceLT, Nat.reduceEqDiff, Nat.reduceAdd, Nat.reduceBEq, Nat.reduceMul, Nat.reduceSub, reduceIte, Nat.reduceLeDiff, reduceCtorEq, Int.reduceNeg, Int.reduceToNat, Int.reduceEq, Int.reduceNe, Int.reduceLT, Int.reduceLE, Bool.or_self, List.length_set, Int.natCast_zero, Int.cast_ofNat_Int, hr2, hc3, hr4])
  · intro c7 h
    unfold streams_Subscribe_J1 at h
    refine Wk_cond_bool rfl (fun hc5 => ?_) (fun hc5 => ?_)
    · first | rw [if_pos hc5] at h | simp only [hc5, Bool.or_false, Bool.or_true, Bool.false_or, Bool.true_or, Bool.and_true, Bool.true_and, Bool.and_false, Bool.false_and, Bool.not_true, Bool.not_false, Bool.false_eq_true, if_true, if_false] at h
      refine Wk_seq ?_
      refine Wk_regionZ fun Z hZ => ?_
      simp (config := { maxSteps := 4000000 }) only [go_sem, Nat.reduceLT, Nat.reduceEqDiff, Nat.reduceAdd, Nat.reduceBEq, Nat.reduceMul, Nat.reduceSub, reduceIte, Nat.reduceLeDiff, reduceCtorEq, Int.reduceNeg, Int.reduceToNat, Int.reduceEq, Int.reduceNe, Int.reduceLT, Int.reduceLE, hc5]
      refine hZ _ ?_
      repeat (with_reducible first | refine Pop.pop ?_ | refine ap_nil_i ?_ | refine ap_lp_i ?_ | refine ap_bl_next (by decide) ?_)
      refine Wk_ret ?_
      repeat (with_reducible first | refine Pop.pop ?_ | refine ap_nil_i ?_ | refine ap_lp_i ?_ | refine ap_bl_next (by decide) ?_)
      simp (config := { maxSteps := 4000000 }) only [go_sem, Nat.reduceLT, Nat.reduceEqDiff, Nat.reduceAdd, Nat.reduceBEq, Nat.reduceMul, Nat.reduceSub, reduceIte, Nat.reduceLeDiff, reduceCtorEq, Int.reduceNeg, Int.reduceToNat, Int.reduceEq, Int.reduceNe, Int.reduceLT, Int.reduceLE, hc5, FinW_ret, List.length_set, List.take_length]
      obtain rfl := Option.some.inj h
      exact ⟨_, rfl, (by repeat' (first | exact ROk.refl _ | exact ROk.nil _ | ((refine ROk.of _ ?_ ?_); (focus ((repeat' (first | exact Le.refl _ | exact LeL.nil | exact Le.nils | exact LeLL.refl _ | refine LeLL.mapAppend ?_ ?_ | refine LeLL.cons ?_ ?_ | refine Le.sl ?_ | refine Le.tup ?_ | refine Le.agg ?_ | refine LeL.cons ?_ ?_)); done)); (focus ((repeat' (first | exact NoOwn.val _ | exact NoOwn.sl _ _ _ _ | refine NoOwn.tup ?_ | refine NoOwn.agg ?_ | exact noOwn_nil | refine noOwn_cons ?_ ?_)); done))) | ((refine ROk.own ?_ ?_); (focus ((repeat' (first | exact Le.refl _ | exact LeL.nil | exact Le.nils | exact LeLL.refl _ | refine LeLL.mapAppend ?_ ?_ | refine LeLL.cons ?_ ?_ | refine Le.sl ?_ | refine Le.tup ?_ | refine Le.agg ?_ | refine LeL.cons ?_ ?_)); done)); (focus ((first | exact RowOk.noOwn (rowI_ok .i64) _ | exact RowOk.noOwn Sub.row_ok _); done))) | refine ROk.agg rfl ?_ | refine ROk.tup rfl ?_ | exact rok_nil | refine rok_cons ?_ ?_)), (by (repeat' (first | exact PureC.val _ | refine PureC.tup ?_ | refine PureC.agg ?_ | exact pure_nil | refine pure_cons ?_ ?_ | refine PureC.sl ?_ | exact pure_rows (pure_rowI .i64) _ | exact pure_rows Sub.row_pure _ |  exact pure_rows_nil | refine pure_rows_append ?_ ?_ | refine pure_rows_cons ?_ ?_)))⟩
    · first | rw [if_neg (ne_true_of_eq_false hc5)] at h | simp only [hc5, Bool.or_false, Bool.or_true, Bool.false_or, Bool.true_or, Bool.and_true, Bool.true_and, Bool.and_false, Bool.false_and, Bool.not_true, Bool.not_false, Bool.false_eq_true, if_true, if_false] at h
      refine Wk_skip ?_
      repeat (with_reducible first | refine Pop.pop ?_ | refine ap_nil_i ?_ | refine ap_lp_i ?_ | refine ap_bl_next (by decide) ?_)
      unfold streams_Subscribe_J2 at h
      refine Wk_seq ?_
      obtain ⟨r10, hr6, h⟩ := Option.bind_eq_some_iff.1 h
      refine Wk_regionZ fun Z hZ => ?_
      simp (config := { maxSteps := 4000000 }) only [go_sem, Nat.reduceLT, Nat.reduceEqDiff, Nat.reduceAdd, Nat.reduceBEq, Nat.reduceMul, Nat.reduceSub, reduceIte, Nat.reduceLeDiff, reduceCtorEq, Int.reduceNeg, Int.reduceToNat, Int.reduceEq, Int.reduceNe, Int.reduceLT, Int.reduceLE, hc5, hr6]
      refine hZ _ ?_
      repeat (with_reducible first | refine Pop.pop ?_ | refine ap_nil_i ?_ | refine ap_lp_i ?_ | refine ap_bl_next (by decide) ?_)
      refine Wk_seq ?_
      refine Wk_block ?_
      refine Wk_seq ?_
      refine Wk_regionZ fun Z hZ => ?_
      simp (config := { maxSteps := 4000000 }) only [go_sem, Nat.reduceLT, Nat.reduceEqDiff, Nat.reduceAdd, Nat.reduceBEq, Nat.reduceMul, Nat.reduceSub, reduceIte, Nat.reduceLeDiff, reduceCtorEq, Int.reduceNeg, Int.reduceToNat, Int.reduceEq, Int.reduceNe, Int.reduceLT, Int.reduceLE, hc5, hr6]
      refine hZ _ ?_
      repeat (with_reducible first | refine Pop.pop ?_ | refine ap_nil_i ?_ | refine ap_lp_i ?_ | refine ap_bl_next (by decide) ?_)
      refine Wk_cond_bool rfl (fun hc7 => ?_) (fun hc7 => ?_)
      · first | rw [if_pos hc7] at h | simp only [hc7, hc5, Bool.or_false, Bool.or_true, Bool.false_or, Bool.true_or, Bool.and_true, Bool.true_and, Bool.and_false, Bool.false_and, Bool.not_true, Bool.not_false, Bool.false_eq_true, if_true, if_false] at h
        refine Wk_seq ?_
        refine Wk_regionZ fun Z hZ => ?_
        simp (config := { maxSteps := 4000000 }) only [go_sem, Nat.reduceLT, Nat.reduceEqDiff, Nat.reduceAdd, Nat.reduceBEq, Nat.reduceMul, Nat.reduceSub, reduceIte, Nat.reduceLeDiff, reduceCtorEq, Int.reduceNeg, Int.reduceToNat, Int.reduceEq, Int.reduceNe, Int.reduceLT, Int.reduceLE, hc5, hr6, hc7]
        refine hZ _ ?_
        repeat (with_reducible first | refine Pop.pop ?_ | refine ap_nil_i ?_ | refine ap_lp_i ?_ | refine ap_bl_next (by decide) ?_)
        refine Wk_ret ?_
        repeat (with_reducible first | refine Pop.pop ?_ | refine ap_nil_i ?_ | refine ap_lp_i ?_ | refine ap_bl_next (by decide) ?_)
        simp (config := { maxSteps := 4000000 }) only [go_sem, Nat.reduceLT, Nat.reduceEqDiff, Nat.reduceAdd, Nat.reduceBEq, Nat.reduceMul, Nat.reduceSub, reduceIte, Nat.reduceLeDiff, reduceCtorEq, Int.reduceNeg, Int.reduceToNat, Int.reduceEq, Int.reduceNe, Int.reduceLT, Int.reduceLE, hc5, hr6, hc7, FinW_ret, List.length_set, List.take_length]
        obtain rfl := Option.some.inj h
        exact ⟨_, rfl, (by repeat' (first | exact ROk.refl _ | exact ROk.nil _ | ((refine ROk.of _ ?_ ?_); (focus ((repeat' (first | exact Le.refl _ | exact LeL.nil | exact Le.nils | exact LeLL.refl _ | refine LeLL.mapAppend ?_ ?_ | refine LeLL.cons ?_ ?_ | refine Le.sl ?_ | refine Le.tup ?_ | refine Le.agg ?_ | refine LeL.cons ?_ ?_)); done)); (focus ((repeat' (first | exact NoOwn.val _ | exact NoOwn.sl _ _ _ _ | refine NoOwn.tup ?_ | refine NoOwn.agg ?_ | exact noOwn_nil | refine noOwn_cons ?_ ?_)); done))) | ((refine ROk.own ?_ ?_); (focus ((repeat' (first | exact Le.refl _ | exact LeL.nil | exact Le.nils | exact LeLL.refl _ | refine LeLL.mapAppend ?_ ?_ | refine LeLL.cons ?_ ?_ | refine Le.sl ?_ | refine Le.tup ?_ | refine Le.agg ?_ | refine LeL.cons ?_ ?_)); done)); (focus ((first | exact RowOk.noOwn (rowI_ok .i64) _ | exact RowOk.noOwn Sub.row_ok _); done))) | refine ROk.agg rfl ?_ | refine ROk.tup rfl ?_ | exact rok_nil | refine rok_cons ?_ ?_)), (by (repeat' (first | exact PureC.val _ | refine PureC.tup ?_ | refine PureC.agg ?_ | exact pure_nil | refine pure_cons ?_ ?_ | refine PureC.sl ?_ | exact pure_rows (pure_rowI .i64) _ | exact pure_rows Sub.row_pure _ |  exact pure_rows_nil | refine pure_rows_append ?_ ?_ | refine pure_rows_cons ?_ ?_)))⟩
      · first | rw [if_neg (ne_true_of_eq_false hc7)] at h | simp only [hc7, hc5, Bool.or_false, Bool.or_true, Bool.false_or, Bool.true_or, Bool.and_true, Bool.true_and, Bool.and_false, Bool.false_and, Bool.not_true, Bool.not_false, Bool.false_eq_true, if_true, if_false] at h
        refine Wk_seq ?_
        refine Wk_regionZ fun Z hZ => ?_
        simp (config := { maxSteps := 4000000 }) only [go_sem, Nat.reduceLT, Nat.reduceEqDiff, Nat.reduceAdd, Nat.reduceBEq, Nat.reduceMul, Nat.reduceSub, reduceIte, Nat.reduceLeDiff, reduceCtorEq, Int.reduceNeg, Int.reduceToNat, Int.reduceEq, Int.reduceNe, Int.reduceLT, Int.reduceLE, hc5, hr6, hc7]
        refine hZ _ ?_
        repeat (with_reducible first | refine Pop.pop ?_ | refine ap_nil_i ?_ | refine ap_lp_i ?_ | refine ap_bl_next (by decide) ?_)
        refine Wk_cond_dec rfl (fun hc8 => ?_) (fun hc8 => ?_)
        · have hc8d := decide_eq_true hc8
          first | rw [if_pos hc8] at h | rw [if_pos hc8d] at h | simp only [hc8d, Bool.not_true, Bool.not_false, Bool.false_eq_true, if_true, if_false] at h
          refine Wk_seq ?_
          refine Wk_regionZ fun Z hZ => ?_
          simp (config := { maxSteps := 4000000 }) only [go_sem, Nat.reduceLT, Nat.reduceEqDiff, Nat.reduceAdd, Nat.reduceBEq, Nat.reduceMul, Nat.reduceSub, reduceIte, Nat.reduceLeDiff, reduceCtorEq, Int.reduceNeg, Int.reduceToNat, Int.reduceEq, Int.reduceNe, Int.reduceLT, Int.reduceLE, hc5, hr6, hc7, hc8d]
          refine hZ _ ?_
          repeat (with_reducible first | refine Pop.pop ?_ | refine ap_nil_i ?_ | refine ap_lp_i ?_ | refine ap_bl_next (by decide) ?_)
          refine Wk_ret ?_
          repeat (with_reducible first | refine Pop.pop ?_ | refine ap_nil_i ?_ | refine ap_lp_i ?_ | refine ap_bl_next (by decide) ?_)
          simp (config := { maxSteps := 4000000 }) only [go_sem, Nat.reduceLT, Nat.reduceEqDiff, Nat.reduceAdd, Nat.reduceBEq, Nat.reduceMul, Nat.reduceSub, reduceIte, Nat.reduceLeDiff, reduceCtorEq, Int.reduceNeg, Int.reduceToNat, Int.reduceEq, Int.reduceNe, Int.reduceLT, Int.reduceLE, hc5, hr6, hc7, hc8d, FinW_ret, List.length_set, List.take_length]
          obtain rfl := Option.some.inj h
          exact ⟨_, rfl, (by repeat' (first | exact ROk.refl _ | exact ROk.nil _ | ((refine ROk.of _ ?_ ?_); (focus ((repeat' (first | exact Le.refl _ | exact LeL.nil | exact Le.nils | exact LeLL.refl _ | refine LeLL.mapAppend ?_ ?_ | refine LeLL.cons ?_ ?_ | refine Le.sl ?_ | refine Le.tup ?_ | refine Le.agg ?_ | refine LeL.cons ?_ ?_)); done)); (focus ((repeat' (first | exact NoOwn.val _ | exact NoOwn.sl _ _ _ _ | refine NoOwn.tup ?_ | refine NoOwn.agg ?_ | exact noOwn_nil | refine noOwn_cons ?_ ?_)); done))) | ((refine ROk.own ?_ ?_); (focus ((repeat' (first | exact Le.refl _ | exact LeL.nil | exact Le.nils | exact LeLL.refl _ | refine LeLL.mapAppend ?_ ?_ | refine LeLL.cons ?_ ?_ | refine Le.sl ?_ | refine Le.tup ?_ | refine Le.agg ?_ | refine LeL.cons ?_ ?_)); done)); (focus ((first | exact RowOk.noOwn (rowI_ok .i64) _ | exact RowOk.noOwn Sub.row_ok _); done))) | refine ROk.agg rfl ?_ | refine ROk.tup rfl ?_ | exact rok_nil | refine rok_cons ?_ ?_)), (by (repeat' (first | exact PureC.val _ | refine PureC.tup ?_ | refine PureC.agg ?_ | exact pure_nil | refine pure_cons ?_ ?_ | refine PureC.sl ?_ | exact pure_rows (pure_rowI .i64) _ | exact pure_rows Sub.row_pure _ |  exact pure_rows_nil | refine pure_rows_append ?_ ?_ | refine pure_rows_cons ?_ ?_)))⟩
        · have hc8d := decide_eq_false hc8
          first | rw [if_neg hc8] at h | rw [if_neg (ne_true_of_eq_false hc8d)] at h | simp only [hc8d, Bool.not_true, Bool.not_false, Bool.false_eq_true, if_true, if_false] at h
          refine Wk_skip ?_
          repeat (with_reducible first | refine Pop.pop ?_ | refine ap_nil_i ?_ | refine ap_lp_i ?_ | refine ap_bl_next (by decide) ?_)
          refine Wk_seq ?_
          obtain ⟨r11, hr9, h⟩ := Option.bind_eq_some_iff.1 h
          refine Wk_regionZ fun Z hZ => ?_
          simp (config := { maxSteps := 4000000 }) only [go_sem, Nat.reduceLT, Nat.reduceEqDiff, Nat.reduceAdd, Nat.reduceBEq, Nat.reduceMul, Nat.reduceSub, reduceIte, Nat.reduceLeDiff, reduceCtorEq, Int.reduceNeg, Int.reduceToNat, Int.reduceEq, Int.reduceNe, Int.reduceLT, Int.reduceLE, hc5, hr6, hc7, hc8d, hr9]
          refine hZ _ ?_
          repeat (with_reducible first | refine Pop.pop ?_ | refine ap_nil_i ?_ | refine ap_lp_i ?_ | refine ap_bl_next (by decide) ?_)
          refine Wk_seq ?_
          obtain ⟨r12, hr10, h⟩ := Option.bind_eq_some_iff.1 h
          refine Wk_regionZ fun Z hZ => ?_
          simp (config := { maxSteps := 4000000 }) only [go_sem, Nat.reduceLT, Nat.reduceEqDiff, Nat.reduceAdd, Nat.reduceBEq, Nat.reduceMul, Nat.reduceSub, reduceIte, Nat.reduceLeDiff, reduceCtorEq, Int.reduceNeg, Int.reduceToNat, Int.reduceEq, Int.reduceNe, Int.reduceLT, Int.reduceLE, hc5, hr6, hc7, hc8d, hr9, hr10]
          refine hZ _ ?_
          repeat (with_reducible first | refine Pop.pop ?_ | refine ap_nil_i ?_ | refine ap_lp_i ?_ | refine ap_bl_next (by decide) ?_)
          refine Wk_seq ?_
          obtain ⟨r13, hr11, h⟩ := Option.bind_eq_some_iff.1 h
          refine Wk_regionZ fun Z hZ => ?_
          simp (config := { maxSteps := 4000000 }) only [go_sem, Nat.reduceLT, Nat.reduceEqDiff, Nat.reduceAdd, Nat.reduceBEq, Nat.reduceMul, Nat.reduceSub, reduceIte, Nat.reduceLeDiff, reduceCtorEq, Int.reduceNeg, Int.reduceToNat, Int.reduceEq, Int.reduceNe, Int.reduceLT, Int.reduceLE, hc5, hr6, hc7, hc8d, hr9, hr10, hr11]
          refine hZ _ ?_
          repeat (with_reducible first | refine Pop.pop ?_ | refine ap_nil_i ?_ | refine ap_lp_i ?_ | refine ap_bl_next (by decide) ?_)
          refine Wk_seq ?_
          refine Wk_regionZ fun Z hZ => ?_
          simp (config := { maxSteps := 4000000 }) only [go_sem, Nat.reduceLT, Nat.reduceEqDiff, Nat.reduceAdd, Nat.reduceBEq, Nat.reduceMul, Nat.reduceSub, reduceIte, Nat.reduceLeDiff, reduceCtorEq, Int.reduceNeg, Int.reduceToNat, Int.reduceEq, Int.reduceNe, Int.reduceLT, Int.reduceLE, hc5, hr6, hc7, hc8d, hr9, hr10, hr11]
          refine hZ _ ?_
          repeat (with_reducible first | refine Pop.pop ?_ | refine ap_nil_i ?_ | refine ap_lp_i ?_ | refine ap_bl_next (by decide) ?_)
          refine Wk_ret ?_
          repeat (with_reducible first | refine Pop.pop ?_ | refine ap_nil_i ?_ | refine ap_lp_i ?_ | refine ap_bl_next (by decide) ?_)
          simp (config := { maxSteps := 4000000 }) only [go_sem, Nat.reduceLT, Nat.reduceEqDiff, Nat.reduceAdd, Nat.reduceBEq, Nat.reduceMul, Nat.reduceSub, reduceIte, Nat.reduceLeDiff, reduceCtorEq, Int.reduceNeg, Int.reduceToNat, Int.reduceEq, Int.reduceNe, Int.reduceLT, Int.reduceLE, hc5, hr6, hc7, hc8d, hr9, hr10, hr11, FinW_ret, List.length_set, List.take_length]
          obtain rfl := Option.some.inj h
          exact ⟨_, rfl, (by repeat' (first | exact ROk.refl _ | exact ROk.nil _ | ((refine ROk.of _ ?_ ?_); (focus ((repeat' (first | exact Le.refl _ | exact LeL.nil | exact Le.nils | exact LeLL.refl _ | refine LeLL.mapAppend ?_ ?_ | refine LeLL.cons ?_ ?_ | refine Le.sl ?_ | refine Le.tup ?_ | refine Le.agg ?_ | refine LeL.cons ?_ ?_)); done)); (focus ((repeat' (first | exact NoOwn.val _ | exact NoOwn.sl _ _ _ _ | refine NoOwn.tup ?_ | refine NoOwn.agg ?_ | exact noOwn_nil | refine noOwn_cons ?_ ?_)); done))) | ((refine ROk.own ?_ ?_); (focus ((repeat' (first | exact Le.refl _ | exact LeL.nil | exact Le.nils | exact LeLL.refl _ | refine LeLL.mapAppend ?_ ?_ | refine LeLL.cons ?_ ?_ | refine Le.sl ?_ | refine Le.tup ?_ | refine Le.agg ?_ | refine LeL.cons ?_ ?_)); done)); (focus ((first | exact RowOk.noOwn (rowI_ok .i64) _ | exact RowOk.noOwn Sub.row_ok _); done))) | refine ROk.agg rfl ?_ | refine ROk.tup rfl ?_ | exact rok_nil | refine rok_cons ?_ ?_)), (by (repeat' (first | exact PureC.val _ | refine PureC.tup ?_ | refine PureC.agg ?_ | exact pure_nil | refine pure_cons ?_ ?_ | refine PureC.sl ?_ | exact pure_rows (pure_rowI .i64) _ | exact pure_rows Sub.row_pure _ |  exact pure_rows_nil | refine pure_rows_append ?_ ?_ | refine pure_rows_cons ?_ ?_)))⟩
def fs_streams_Subscribe (N : Nat) : FnS := { own := [], pure := true, fn := fun cs => match cs with
  | [c0, c1, c2] => (Topic.decA c0).bind fun qc0 => (Ref.decA c1).bind fun qc1 => (decS c2).bind fun qc2 => (streams_Subscribe N qc0 qc1 qc2).map fun r => .tup [.agg (Topic.row r.1), .val (.int .i64 r.2)]
  | _ => none }
theorem fs_streams_Subscribe_own (N : Nat) : (fs_streams_Subscribe N).own = [] := rfl
theorem fs_streams_Subscribe_pure (N : Nat) : (fs_streams_Subscribe N).pure = true := rfl
attribute [go_sem] fs_streams_Subscribe fs_streams_Subscribe_own fs_streams_Subscribe_pure
theorem fs_streams_Subscribe_ok (N : Nat) : FSOk Try.prog 11 (fs_streams_Subscribe N) := by
  refine ⟨fun cs r h => ?_, fun h => by cases h⟩
  simp only [fs_streams_Subscribe] at h
  split at h
  · simp only [Option.bind_eq_some_iff, Option.map_eq_some_iff] at h
    obtain ⟨q0, h0, q1, h1, q2, h2, r', hr, rfl⟩ := h
    exact (((w_streams_Subscribe N q0 q1 q2 r' hr).args (LeL.cons (Topic.decA_le h0) (LeL.cons (Ref.decA_le h1) (LeL.cons (decS_le h2) (LeL.nil))))).res (by repeat' (first | exact ROk.refl _ | exact ROk.nil _ | ((refine ROk.of _ ?_ ?_); (focus ((repeat' (first | exact Le.refl _ | exact LeL.nil | exact Le.nils | exact LeLL.refl _ | refine LeLL.mapAppend ?_ ?_ | refine LeLL.cons ?_ ?_ | refine Le.sl ?_ | refine Le.tup ?_ | refine Le.agg ?_ | refine LeL.cons ?_ ?_)); done)); (focus ((repeat' (first | exact NoOwn.val _ | exact NoOwn.sl _ _ _ _ | refine NoOwn.tup ?_ | refine NoOwn.agg ?_ | exact noOwn_nil | refine noOwn_cons ?_ ?_)); done))) | ((refine ROk.own ?_ ?_); (focus ((repeat' (first | exact Le.refl _ | exact LeL.nil | exact Le.nils | exact LeLL.refl _ | refine LeLL.mapAppend ?_ ?_ | refine LeLL.cons ?_ ?_ | refine Le.sl ?_ | refine Le.tup ?_ | refine Le.agg ?_ | refine LeL.cons ?_ ?_)); done)); (focus ((first | exact RowOk.noOwn (rowI_ok .i64) _ | exact RowOk.noOwn Sub.row_ok _); done))) | refine ROk.agg rfl ?_ | refine ROk.tup rfl ?_ | exact rok_nil | refine rok_cons ?_ ?_)))
  · cases h

def fso_streams_Subscribe (N : Nat) : FnS := { own := [], pure := true, fn := fun cs => match cs with
  | [c0, c1, c2] => (Topic.decA c0).bind fun qc0 => (Ref.decA c1).bind fun qc1 => (decS c2).bind fun qc2 => (streams_Subscribe N qc0 qc1 qc2).map fun r => .tup [.agg [.val (.string r.1.Name), .val (.int .i64 r.1.First), .sl true none 1 none (r.1.Events.map (rowI .i64)), .sl true none 4 none (r.1.Subs.map Sub.row)], .val (.int .i64 r.2)]
  | _ => none }
theorem fso_streams_Subscribe_own (N : Nat) : (fso_streams_Subscribe N).own = [] := rfl
theorem fso_streams_Subscribe_pure (N : Nat) : (fso_streams_Subscribe N).pure = true := rfl
attribute [go_sem] fso_streams_Subscribe fso_streams_Subscribe_own fso_streams_Subscribe_pure
theorem fso_streams_Subscribe_ok (N : Nat) : FSOk Try.prog 11 (fso_streams_Subscribe N) := by
  refine ⟨fun cs r h => ?_, fun h => by cases h⟩
  simp only [fso_streams_Subscribe] at h
  split at h
  · simp only [Option.bind_eq_some_iff, Option.map_eq_some_iff] at h
    obtain ⟨q0, h0, q1, h1, q2, h2, r', hr, rfl⟩ := h
    exact ((w_streams_Subscribe N q0 q1 q2 r' hr).args (LeL.cons (Topic.decA_le h0) (LeL.cons (Ref.decA_le h1) (LeL.cons (decS_le h2) (LeL.nil)))))
  · cases h

end Go.Proofs.Ytpkfhjbgnpdgcaa
end

section
set_option linter.unusedSimpArgs false
set_option linter.unusedVariables false
set_option maxRecDepth 100000
namespace Go.Proofs.Ytpkfhjbgnpdgcaa
open Go Go.Proofs Go.Abs
noncomputable def E_streams_Publish (N : Nat) : Env := { T := tiOf Try.prog, G := fun d f => if d = 9 ∧ f = 19 then some (fs_streams_Valid N) else if d = 13 ∧ f = 17 then some (fs_streams_End N) else if d = 24 ∧ f = 28 then some (fso_streams_clone N) else none, F := fun d => none }
theorem E_streams_Publish_F (N : Nat) (d : Nat) : (E_streams_Publish N).F d = none := rfl
theorem E_streams_Publish_T (N : Nat) : (E_streams_Publish N).T = tiOf Try.prog := rfl
theorem E_streams_Publish_G0 (N : Nat) : (E_streams_Publish N).G 9 19 = some (fs_streams_Valid N) := rfl
theorem E_streams_Publish_G1 (N : Nat) : (E_streams_Publish N).G 13 17 = some (fs_streams_End N) := rfl
theorem E_streams_Publish_G2 (N : Nat) : (E_streams_Publish N).G 24 28 = some (fso_streams_clone N) := rfl
theorem E_streams_Publish_ok (N : Nat) : GOk Try.prog { T := tiOf Try.prog, G := (E_streams_Publish N).G } := by
  intro d f fs hfs
  simp only [E_streams_Publish] at hfs
  by_cases hc : d = 9 ∧ f = 19
  · rw [if_pos hc] at hfs; obtain ⟨rfl, rfl⟩ := hc; obtain rfl := Option.some.inj hfs; exact fs_streams_Valid_ok N
  rw [if_neg hc] at hfs
  by_cases hc : d = 13 ∧ f = 17
  · rw [if_pos hc] at hfs; obtain ⟨rfl, rfl⟩ := hc; obtain rfl := Option.some.inj hfs; exact fs_streams_End_ok N
  rw [if_neg hc] at hfs
  by_cases hc : d = 24 ∧ f = 28
  · rw [if_pos hc] at hfs; obtain ⟨rfl, rfl⟩ := hc; obtain rfl := Option.some.inj hfs; exact fso_streams_clone_ok N
  rw [if_neg hc] at hfs
  cases hfs
theorem fo_streams_Publish : FunOk Try.prog 10 Try.f10 Try.f10.body.get! := ⟨Try.func10, rfl, by decide, by kernel_rfl⟩
attribute [go_sem] E_streams_Publish_T E_streams_Publish_F E_streams_Publish_G0 E_streams_Publish_G1 E_streams_Publish_G2
set_option maxHeartbeats 4000000 in
theorem w_streams_Publish (N : Nat) (a0 : Topic) (a1 : Int) (r : Topic × Int × Int) (h : streams_Publish N a0 a1 = some r) : Con Try.prog 10 [] true [.agg [.val (.string a0.Name), .val (.int .i64 a0.First), .sl false none 1 none (a0.Events.map (rowI .i64)), .sl false none 4 none (a0.Subs.map Sub.row)], .val (.int .i64 a1)] (.tup [.agg [.val (.string r.1.Name), .val (.int .i64 r.1.First), .sl true none 1 none (r.1.Events.map (rowI .i64)), .sl true none 4 none (r.1.Subs.map Sub.row)], .val (.int .i64 r.2.1), .val (.int .i64 r.2.2)]) := by
  refine fun_ok3 (E := E_streams_Publish N) (tiOf_ok Try.prog (E_streams_Publish N).G) (E_streams_Publish_ok N) mix fo_streams_Publish (Nat.le_of_ble_eq_true rfl) ?_
  intro _
  rw [entry_tab (by simp)]
  rw [show entryF [] [.agg [.val (.string a0.Name), .val (.int .i64 a0.First), .sl false none 1 none (a0.Events.map (rowI .i64)), .sl false none 4 none (a0.Subs.map Sub.row)], .val (.int .i64 a1)] = (updT (updT deadT 0 (.agg [.val (.string a0.Name), .val (.int .i64 a0.First), .sl false none 1 none (a0.Events.map (rowI .i64)), .sl false none 4 none (a0.Subs.map Sub.row)])) 1 (.val (.int .i64 a1))) from by funext t; match t with | 0 => rfl | 1 => rfl | t + 2 => rfl]
  apply Wk_start
  simp only [Try.f10, Option.get!, R0_RZ]
  unfold streams_Publish at h
  refine Wk_seq ?_
  refine Wk_regionZ fun Z hZ => ?_
  simp (config := { maxSteps := 4000000 }) only [go_sem, Nat.reduceLT, Nat.reduceEqDiff, Nat.reduceAdd, Nat.reduceBEq, Nat.reduceMul, Nat.reduceSub, reduceIte, Nat.reduceLeDiff, reduceCtorEq, Int.reduceNeg, Int.reduceToNat, Int.reduceEq, Int.reduceNe, Int.reduceLT, Int.reduceLE]
  refine hZ _ ?_
  repeat (with_reducible first | refine Pop.pop ?_ | refine ap_nil_i ?_ | refine ap_lp_i ?_ | refine ap_bl_next (by decide) ?_)
  refine Wk_seq ?_
  refine Wk_seq ?_
  obtain ⟨r1, hr1, h⟩ := Option.bind_eq_some_iff.1 h
  refine Wk_regionZ fun Z hZ => ?_
  simp (config := { maxSteps := 4000000 }) only [go_sem, Nat.reduceLT, Nat.reduceEqDiff, Nat.reduceAdd, Nat.reduceBEq, Nat.reduceMul, Nat.reduceSub, reduceIte, Nat.reduceLeDiff, reduceCtorEq, Int.reduceNeg, Int.reduceToNat, Int.reduceEq, Int.reduceNe, Int.reduceLT, Int.reduceLE, hr1]
  refine hZ _ ?_
  repeat (with_reducible first | refine Pop.pop ?_ | refine ap_nil_i ?_ | refine ap_lp_i ?_ | refine ap_bl_next (by decide) ?_)
  refine Wk_cond_nbool rfl (fun hc2 => ?_) (fun hc2 => ?_)
  · first | rw [if_neg (ne_true_of_eq_false hc2)] at h | simp only [hc2, Bool.or_false, Bool.or_true, Bool.false_or, Bool.true_or, Bool.and_true, Bool.true_and, Bool.and_false, Bool.false_and, Bool.not_true, Bool.not_false, Bool.false_eq_true, if_true, if_false] at h
    refine Wk_seq ?_
    refine Wk_regionZ fun Z hZ => ?_
    simp (config := { maxSteps := 4000000 }) only [go_sem, Nat.reduceLT, Nat.reduceEqDiff, Nat.reduceAdd, Nat.reduceBEq, Nat.reduceMul, Nat.reduceSub, reduceIte, Nat.reduceLeDiff, reduceCtorEq, Int.reduceNeg, Int.reduceToNat, Int.reduceEq, Int.reduceNe, Int.reduceLT, Int.reduceLE, hr1, hc2]
    refine hZ _ ?_
    repeat (with_reducible first | refine Pop.pop ?_ | refine ap_nil_i ?_ | refine ap_lp_i ?_ | refine ap_bl_next (by decide) ?_)
    refine Wk_ret ?_
    repeat (with_reducible first | refine Pop.pop ?_ | refine ap_nil_i ?_ | refine ap_lp_i ?_ | refine ap_bl_next (by decide) ?_)
    simp (config := { maxSteps := 4000000 }) only [go_sem, Nat.reduceLT, Nat.reduceEqDiff, Nat.reduceAdd, Nat.reduceBEq, Nat.reduceMul, Nat.reduceSub, reduceIte, Nat.reduceLeDiff, reduceCtorEq, Int.reduceNeg, Int.reduceToNat, Int.reduceEq, Int.reduceNe, Int.reduceLT, Int.reduceLE, hr1, hc2, FinW_ret, List.length_set, List.take_length]
    obtain rfl := Option.some.inj h
    exact ⟨_, rfl, (by repeat' (first | exact ROk.refl _ | exact ROk.nil _ | ((refine ROk.of _ ?_ ?_); (focus ((repeat' (first | exact Le.refl _ | exact LeL.nil | exact Le.nils | exact LeLL.refl _ | refine LeLL.mapAppend ?_ ?_ | refine LeLL.cons ?_ ?_ | refine Le.sl ?_ | refine Le.tup ?_ | refine Le.agg ?_ | refine LeL.cons ?_ ?_)); done)); (focus ((repeat' (first | exact NoOwn.val _ | exact NoOwn.sl _ _ _ _ | refine NoOwn.tup ?_ | refine NoOwn.agg ?_ | exact noOwn_nil | refine noOwn_cons ?_ ?_)); done))) | ((refine ROk.own ?_ ?_); (focus ((repeat' (first | exact Le.refl _ | exact LeL.nil | exact Le.nils | exact LeLL.refl _ | refine LeLL.mapAppend ?_ ?_ | refine LeLL.cons ?_ ?_ | refine Le.sl ?_ | refine Le.tup ?_ | refine Le.agg ?_ | refine LeL.cons ?_ ?_)); done)); (focus ((first | exact RowOk.noOwn (rowI_ok .i64) _ | exact RowOk.noOwn Sub.row_ok _); done))) | refine ROk.agg rfl ?_ | refine ROk.tup rfl ?_ | exact rok_nil | refine rok_cons ?_ ?_)), (by (repeat' (first | exact PureC.val _ | refine PureC.tup ?_ | refine PureC.agg ?_ | exact pure_nil | refine pure_cons ?_ ?_ | refine PureC.sl ?_ | exact pure_rows (pure_rowI .i64) _ | exact pure_rows Sub.row_pure _ |  exact pure_rows_nil | refine pure_rows_append ?_ ?_ | refine pure_rows_cons ?_ ?_)))⟩
  · first | rw [if_pos hc2] at h | simp only [hc2, Bool.or_false, Bool.or_true, Bool.false_or, Bool.true_or, Bool.and_true, Bool.true_and, Bool.and_false, Bool.false_and, Bool.not_true, Bool.not_false, Bool.false_eq_true, if_true, if_false] at h
    refine Wk_skip ?_
    repeat (with_reducible first | refine Pop.pop ?_ | refine ap_nil_i ?_ | refine ap_lp_i ?_ | refine ap_bl_next (by decide) ?_)
    refine Wk_seq ?_
    obtain ⟨r2, hr3, h⟩ := Option.bind_eq_some_iff.1 h
    refine Wk_regionZ fun Z hZ => ?_
    simp (config := { maxSteps := 4000000 }) only [go_sem, Nat.reduceLT, Nat.reduceEqDiff, Nat.reduceAdd, Nat.reduceBEq, Nat.reduceMul, Nat.reduceSub, reduceIte, Nat.reduceLeDiff, reduceCtorEq, Int.reduceNeg, Int.reduceToNat, Int.reduceEq, Int.reduceNe, Int.reduceLT, Int.reduceLE, hr1, hc2, hr3]
    refine hZ _ ?_
    repeat (with_reducible first | refine Pop.pop ?_ | refine ap_nil_i ?_ | refine ap_lp_i ?_ | refine ap_bl_next (by decide) ?_)
    refine Wk_seq ?_
    apply Wk_join1 (fun (c5 : Bool) => ⟨tab 33 (updT (updT (updT (updT (updT deadT 1 (.val (.int .i64 a1))) 2 (.pref 2 [] 0 0)) 4 (.pref 4 [] 0 0)) 7 (.val (.int .i64 r2))) 21 (.val (.bool c5))), (upd (upd RZ 2 (.sl true none 4 (some 1) [[.val (.string a0.Name), .val (.int .i64 a0.First), .sl false none 1 none (a0.Events.map (rowI .i64)), .sl false none 4 none (a0.Subs.map Sub.row)]])) 4 (.sl true none 4 (some 1) [[.val (.string (⟨#[]⟩)), .val (.int .i64 0), .val (.slice none 0 0), .val (.slice none 0 0)]]))⟩)
    · intro hJ4
      refine Wk_regionZ fun Z hZ => ?_
      simp (config := { maxSteps := 4000000 }) only [go_sem, Nat.reduceLT, Nat.reduceEqDiff, Nat.reduceAdd, Nat.reduceBEq, Nat.reduceMul, Nat.reduceSub, reduceIte, Nat.reduceLeDiff, reduceCtorEq, Int.reduceNeg, Int.reduceToNat, Int.reduceEq, Int.reduceNe, Int.reduceLT, Int.reduceLE, hr1, hc2, hr3]
      refine RX_guard_dec rfl (fun hc5 => ?_) (fun hc5 => ?_)
      · have hc5d := decide_eq_true hc5
        first | rw [if_pos hc5] at h | rw [if_pos hc5d] at h | simp only [hc5d, Bool.not_true, Bool.not_false, Bool.false_eq_true, if_true, if_false] at h
        simp (config := { maxSteps := 4000000 }) only [go_sem, Nat.reduceLT, Nat.reduceEqDiff, Nat.reduceAdd, Nat.reduceBEq, Nat.reduceMul, Nat.reduceSub, reduceIte, Nat.reduceLeDiff, reduceCtorEq, Int.reduceNeg, Int.reduceToNat, Int.reduceEq, Int.reduceNe, Int.reduceLT, Int.reduceLE, hr1, hc2, hr3, hc5d]
        refine hZ _ ?_
        repeat (with_reducible first | refine Pop.pop ?_ | refine ap_nil_i ?_ | refine ap_lp_i ?_ | refine ap_bl_next (by decide) ?_)
        refine hJ4 _ true ?_ h
        refine weak_roots ?_ ?_
        · (repeat' (first | exact weakX_nil | refine weakX_cons ?_ ?_)) <;> (first | rfl | simp only [go_sem, Nat.reduceLT, Nat.reduceEqDiff, Nat.reduceAdd, Nat.reduceBEq, Nat.reduceMul, Nat.reduceSub, reduceIte, Nat.reduceLeDiff, reduceCtorEq, Int.reduceNeg, Int.reduceToNat, Int.reduceEq, Int.reduceNe, Int.reduceLT, Int.reduceLE, Bool.or_self, List.length_set, Int.natCast_zero, Int.cast_ofNat_Int, hr1, hc2, hr3, hc5d])
        · (repeat' (first | exact weakR_nil | refine weakR_cons ?_ ?_ ?_)) <;> (first | rfl | simp only [go_sem, Nat.reduceLT, Nat.reduceEqDiff, Nat.reduceAdd, Nat.reduceBEq, Nat.reduceMul, Nat.reduceSub, reduceIte, Nat.reduceLeDiff, reduceCtorEq, Int.reduceNeg, Int.reduceToNat, Int.reduceEq, Int.reduceNe, Int.reduceLT, Int.reduceLE, Bool.or_self, List.length_set, Int.natCast_zero, Int.cast_ofNat_Int, hr1, hc2, hr3, hc5d])
      · have hc5d := decide_eq_false hc5
        first | rw [if_neg hc5] at h | rw [if_neg (ne_true_of_eq_false hc5d)] at h | simp only [hc5d, Bool.not_true, Bool.not_false, Bool.false_eq_true, if_true, if_false] at h
        simp (config := { maxSteps := 4000000 }) only [go_sem, Nat.reduceLT, Nat.reduceEqDiff, Nat.reduceAdd, Nat.reduceBEq, Nat.reduceMul, Nat.reduceSub, reduceIte, Nat.reduceLeDiff, reduceCtorEq, Int.reduceNeg, Int.reduceToNat, Int.reduceEq, Int.reduceNe, Int.reduceLT, Int.reduceLE, hr1, hc2, hr3, hc5d]
        refine hZ _ ?_
        repeat (with_reducible first | refine Pop.pop ?_ | refine ap_nil_i ?_ | refine ap_lp_i ?_ | refine ap_bl_next (by decide) ?_)
        refine hJ4 _ (decide (r2 = 1099511627776)) ?_ h
        refine weak_roots ?_ ?_
        · (repeat' (first | exact weakX_nil | refine weakX_cons ?_ ?_)) <;> (first | rfl | simp only [go_sem, Nat.reduceLT, Nat.reduceEqDiff, Nat.reduceAdd, Nat.reduceBEq, Nat.reduceMul, Nat.reduceSub, reduceIte, Nat.reduceLeDiff, reduceCtorEq, Int.reduceNeg, Int.reduceToNat, Int.reduceEq, Int.reduceNe, Int.reduceLT, Int.reduceLE, Bool.or_self, List.length_set, Int.natCast_zero, Int.cast_ofNat_Int, hr1, hc2, hr3, hc5d])
        · (repeat' (first | exact weakR_nil | refine weakR_cons ?_ ?_ ?_)) <;> (first | rfl | simp only [go_sem, Nat.reduceLT, Nat.reduceEqDiff, Nat.reduceAdd, Nat.reduceBEq, Nat.reduceMul, Nat.reduceSub, reduceIte, Nat.reduceLeDiff, reduceCtorEq, Int.reduceNeg, Int.reduceToNat, Int.reduceEq, Int.reduceNe, Int.reduceLT, Int.reduceLE, Bool.or_self, List.length_set, Int.natCast_zero, Int.cast_ofNat_Int, hr1, hc2, hr3, hc5d])
    · intro c5 h
      unfold streams_Publish_J1 at h
      refine Wk_cond_bool rfl (fun hc6 => ?_) (fun hc6 => ?_)
      · first | rw [if_pos hc6] at h | simp only [hc6, hc2, Bool.or_false, Bool.or_true, Bool.false_or, Bool.true_or, Bool.and_true, Bool.true_and, Bool.and_false, Bool.false_and, Bool.not_true, Bool.not_false, Bool.false_eq_true, if_true, if_false] at h
        refine Wk_seq ?_
        refine Wk_regionZ fun Z hZ => ?_
        simp (config := { maxSteps := 4000000 }) only [go_sem, Nat.reduceLT, Nat.reduceEqDiff, Nat.reduceAdd, Nat.reduceBEq, Nat.reduceMul, Nat.reduceSub, reduceIte, Nat.reduceLeDiff, reduceCtorEq, Int.reduceNeg, Int.reduceToNat, Int.reduceEq, Int.reduceNe, Int.reduceLT, Int.reduceLE, hr1, hc2, hr3, hc6]
        refine hZ _ ?_
        repeat (with_reducible first | refine Pop.pop ?_ | refine ap_nil_i ?_ | refine ap_lp_i ?_ | refine ap_bl_next (by decide) ?_)
        refine Wk_ret ?_
        repeat (with_reducible first | refine Pop.pop ?_ | refine ap_nil_i ?_ | refine ap_lp_i ?_ | refine ap_bl_next (by decide) ?_)
        simp (config := { maxSteps := 4000000 }) only [go_sem, Nat.reduceLT, Nat.reduceEqDiff, Nat.reduceAdd, Nat.reduceBEq, Nat.reduceMul, Nat.reduceSub, reduceIte, Nat.reduceLeDiff, reduceCtorEq, Int.reduceNeg, Int.reduceToNat, Int.reduceEq, Int.reduceNe, Int.reduceLT, Int.reduceLE, hr1, hc2, hr3, hc6, FinW_ret, List.length_set, List.take_length]
        obtain rfl := Option.some.inj h
        exact ⟨_, rfl, (by repeat' (first | exact ROk.refl _ | exact ROk.nil _ | ((refine ROk.of _ ?_ ?_); (focus ((repeat' (first | exact Le.refl _ | exact LeL.nil | exact Le.nils | exact LeLL.refl _ | refine LeLL.mapAppend ?_ ?_ | refine LeLL.cons ?_ ?_ | refine Le.sl ?_ | refine Le.tup ?_ | refine Le.agg ?_ | refine LeL.cons ?_ ?_)); done)); (focus ((repeat' (first | exact NoOwn.val _ | exact NoOwn.sl _ _ _ _ | refine NoOwn.tup ?_ | refine NoOwn.agg ?_ | exact noOwn_nil | refine noOwn_cons ?_ ?_)); done))) | ((refine ROk.own ?_ ?_); (focus ((repeat' (first | exact Le.refl _ | exact LeL.nil | exact Le.nils | exact LeLL.refl _ | refine LeLL.mapAppend ?_ ?_ | refine LeLL.cons ?_ ?_ | refine Le.sl ?_ | refine Le.tup ?_ | refine Le.agg ?_ | refine LeL.cons ?_ ?_)); done)); (focus ((first | exact RowOk.noOwn (rowI_ok .i64) _ | exact RowOk.noOwn Sub.row_ok _); done))) | refine ROk.agg rfl ?_ | refine ROk.tup rfl ?_ | exact rok_nil | refine rok_cons ?_ ?_)), (by (repeat' (first | exact PureC.val _ | refine PureC.tup ?_ | refine PureC.agg ?_ | exact pure_nil | refine pure_cons ?_ ?_ | refine PureC.sl ?_ | exact pure_rows (pure_rowI .i64) _ | exact pure_rows Sub.row_pure _ |  exact pure_rows_nil | refine pure_rows_append ?_ ?_ | refine pure_rows_cons ?_ ?_)))⟩
      · first | rw [if_neg (ne_true_of_eq_false hc6)] at h | simp only [hc6, hc2, Bool.or_false, Bool.or_true, Bool.false_or, Bool.true_or, Bool.and_true, Bool.true_and, Bool.and_false, Bool.false_and, Bool.not_true, Bool.not_false, Bool.false_eq_true, if_true, if_false] at h
        refine Wk_skip ?_
        repeat (with_reducible first | refine Pop.pop ?_ | refine ap_nil_i ?_ | refine ap_lp_i ?_ | refine ap_bl_next (by decide) ?_)
        unfold streams_Publish_J2 at h
        refine Wk_seq ?_
        obtain ⟨r6, hr7, h⟩ := Option.bind_eq_some_iff.1 h
        refine Wk_regionZ fun Z hZ => ?_
        simp (config := { maxSteps := 4000000 }) only [go_sem, Nat.reduceLT, Nat.reduceEqDiff, Nat.reduceAdd, Nat.reduceBEq, Nat.reduceMul, Nat.reduceSub, reduceIte, Nat.reduceLeDiff, reduceCtorEq, Int.reduceNeg, Int.reduceToNat, Int.reduceEq, Int.reduceNe, Int.reduceLT, Int.reduceLE, hr1, hc2, hr3, hc6, hr7]
        refine hZ _ ?_
        repeat (with_reducible first | refine Pop.pop ?_ | refine ap_nil_i ?_ | refine ap_lp_i ?_ | refine ap_bl_next (by decide) ?_)
        refine Wk_seq ?_
        obtain ⟨ha8, h⟩ := apx_some h
        simp only [List.length_cons, List.length_nil, Nat.zero_add, Nat.add_zero, Nat.reduceAdd] at ha8
        refine Wk_regionZ fun Z hZ => ?_
        simp (config := { maxSteps := 4000000 }) only [go_sem, Nat.reduceLT, Nat.reduceEqDiff, Nat.reduceAdd, Nat.reduceBEq, Nat.reduceMul, Nat.reduceSub, reduceIte, Nat.reduceLeDiff, reduceCtorEq, Int.reduceNeg, Int.reduceToNat, Int.reduceEq, Int.reduceNe, Int.reduceLT, Int.reduceLE, hr1, hc2, hr3, hc6, hr7, ha8]
        refine hZ _ ?_
        repeat (with_reducible first | refine Pop.pop ?_ | refine ap_nil_i ?_ | refine ap_lp_i ?_ | refine ap_bl_next (by decide) ?_)
        refine Wk_seq ?_
        refine Wk_regionZ fun Z hZ => ?_
        simp (config := { maxSteps := 4000000 }) only [go_sem, Nat.reduceLT, Nat.reduceEqDiff, Nat.reduceAdd, Nat.reduceBEq, Nat.reduceMul, Nat.reduceSub, reduceIte, Nat.reduceLeDiff, reduceCtorEq, Int.reduceNeg, Int.reduceToNat, Int.reduceEq, Int.reduceNe, Int.reduceLT, Int.reduceLE, hr1, hc2, hr3, hc6, hr7, ha8]
        refine hZ _ ?_
        repeat (with_reducible first | refine Pop.pop ?_ | refine ap_nil_i ?_ | refine ap_lp_i ?_ | refine ap_bl_next (by decide) ?_)
        refine Wk_ret ?_
        repeat (with_reducible first | refine Pop.pop ?_ | refine ap_nil_i ?_ | refine ap_lp_i ?_ | refine ap_bl_next (by decide) ?_)
        simp (config := { maxSteps := 4000000 }) only [go_sem, Nat.reduceLT, Nat.reduceEqDiff, Nat.reduceAdd, Nat.reduceBEq, Nat.reduceMul, Nat.reduceSub, reduceIte, Nat.reduceLeDiff, reduceCtorEq, Int.reduceNeg, Int.reduceToNat, Int.reduceEq, Int.reduceNe, Int.reduceLT, Int.reduceLE, hr1, hc2, hr3, hc6, hr7, ha8, FinW_ret, List.length_set, List.take_length]
        obtain rfl := Option.some.inj h
        exact ⟨_, rfl, (by repeat' (first | exact ROk.refl _ | exact ROk.nil _ | ((refine ROk.of _ ?_ ?_); (focus ((repeat' (first | exact Le.refl _ | exact LeL.nil | exact Le.nils | exact LeLL.refl _ | refine LeLL.mapAppend ?_ ?_ | refine LeLL.cons ?_ ?_ | refine Le.sl ?_ | refine Le.tup ?_ | refine Le.agg ?_ | refine LeL.cons ?_ ?_)); done)); (focus ((repeat' (first | exact NoOwn.val _ | exact NoOwn.sl _ _ _ _ | refine NoOwn.tup ?_ | refine NoOwn.agg ?_ | exact noOwn_nil | refine noOwn_cons ?_ ?_)); done))) | ((refine ROk.own ?_ ?_); (focus ((repeat' (first | exact Le.refl _ | exact LeL.nil | exact Le.nils | exact LeLL.refl _ | refine LeLL.mapAppend ?_ ?_ | refine LeLL.cons ?_ ?_ | refine Le.sl ?_ | refine Le.tup ?_ | refine Le.agg ?_ | refine LeL.cons ?_ ?_)); done)); (focus ((first | exact RowOk.noOwn (rowI_ok .i64) _ | exact RowOk.noOwn Sub.row_ok _); done))) | refine ROk.agg rfl ?_ | refine ROk.tup rfl ?_ | exact rok_nil | refine rok_cons ?_ ?_)), (by (repeat' (first | exact PureC.val _ | refine PureC.tup ?_ | refine PureC.agg ?_ | exact pure_nil | refine pure_cons ?_ ?_ | refine PureC.sl ?_ | exact pure_rows (pure_rowI .i64) _ | exact pure_rows Sub.row_pure _ |  exact pure_rows_nil | refine pure_rows_append ?_ ?_ | refine pure_rows_cons ?_ ?_)))⟩
def fs_streams_Publish (N : Nat) : FnS := { own := [], pure := true, fn := fun cs => match cs with
  | [c0, c1] => (Topic.decA c0).bind fun qc0 => ((decI .i64) c1).bind fun qc1 => (streams_Publish N qc0 qc1).map fun r => .tup [.agg (Topic.row r.1), .val (.int .i64 r.2.1), .val (.int .i64 r.2.2)]
  | _ => none }
theorem fs_streams_Publish_own (N : Nat) : (fs_streams_Publish N).own = [] := rfl
theorem fs_streams_Publish_pure (N : Nat) : (fs_streams_Publish N).pure = true := rfl
attribute [go_sem] fs_streams_Publish fs_streams_Publish_own fs_streams_Publish_pure
theorem fs_streams_Publish_ok (N : Nat) : FSOk Try.prog 10 (fs_streams_Publish N) := by
  refine ⟨fun cs r h => ?_, fun h => by cases h⟩
  simp only [fs_streams_Publish] at h
  split at h
  · simp only [Option.bind_eq_some_iff, Option.map_eq_some_iff] at h
    obtain ⟨q0, h0, q1, h1, r', hr, rfl⟩ := h
    exact (((w_streams_Publish N q0 q1 r' hr).args (LeL.cons (Topic.decA_le h0) (LeL.cons (decI_le h1) (LeL.nil)))).res (by repeat' (first | exact ROk.refl _ | exact ROk.nil _ | ((refine ROk.of _ ?_ ?_); (focus ((repeat' (first | exact Le.refl _ | exact LeL.nil | exact Le.nils | exact LeLL.refl _ | refine LeLL.mapAppend ?_ ?_ | refine LeLL.cons ?_ ?_ | refine Le.sl ?_ | refine Le.tup ?_ | refine Le.agg ?_ | refine LeL.cons ?_ ?_)); done)); (focus ((repeat' (first | exact NoOwn.val _ | exact NoOwn.sl _ _ _ _ | refine NoOwn.tup ?_ | refine NoOwn.agg ?_ | exact noOwn_nil | refine noOwn_cons ?_ ?_)); done))) | ((refine ROk.own ?_ ?_); (focus ((repeat' (first | exact Le.refl _ | exact LeL.nil | exact Le.nils | exact LeLL.refl _ | refine LeLL.mapAppend ?_ ?_ | refine LeLL.cons ?_ ?_ | refine Le.sl ?_ | refine Le.tup ?_ | refine Le.agg ?_ | refine LeL.cons ?_ ?_)); done)); (focus ((first | exact RowOk.noOwn (rowI_ok .i64) _ | exact RowOk.noOwn Sub.row_ok _); done))) | refine ROk.agg rfl ?_ | refine ROk.tup rfl ?_ | exact rok_nil | refine rok_cons ?_ ?_)))
  · cases h

def fso_streams_Publish (N : Nat) : FnS := { own := [], pure := true, fn := fun cs => match cs with
  | [c0, c1] => (Topic.decA c0).bind fun qc0 => ((decI .i64) c1).bind fun qc1 => (streams_Publish N qc0 qc1).map fun r => .tup [.agg [.val (.string r.1.Name), .val (.int .i64 r.1.First), .sl true none 1 none (r.1.Events.map (rowI .i64)), .sl true none 4 none (r.1.Subs.map Sub.row)], .val (.int .i64 r.2.1), .val (.int .i64 r.2.2)]
  | _ => none }
theorem fso_streams_Publish_own (N : Nat) : (fso_streams_Publish N).own = [] := rfl
theorem fso_streams_Publish_pure (N : Nat) : (fso_streams_Publish N).pure = true := rfl
attribute [go_sem] fso_streams_Publish fso_streams_Publish_own fso_streams_Publish_pure
theorem fso_streams_Publish_ok (N : Nat) : FSOk Try.prog 10 (fso_streams_Publish N) := by
  refine ⟨fun cs r h => ?_, fun h => by cases h⟩
  simp only [fso_streams_Publish] at h
  split at h
  · simp only [Option.bind_eq_some_iff, Option.map_eq_some_iff] at h
    obtain ⟨q0, h0, q1, h1, r', hr, rfl⟩ := h
    exact ((w_streams_Publish N q0 q1 r' hr).args (LeL.cons (Topic.decA_le h0) (LeL.cons (decI_le h1) (LeL.nil))))
  · cases h

end Go.Proofs.Ytpkfhjbgnpdgcaa
end

section
set_option linter.unusedSimpArgs false
set_option linter.unusedVariables false
set_option maxRecDepth 100000
namespace Go.Proofs.Ytpkfhjbgnpdgcaa
open Go Go.Proofs Go.Abs
noncomputable def E_streams_Pending (N : Nat) : Env := { T := tiOf Try.prog, G := fun d f => if d = 7 ∧ f = 19 then some (fs_streams_Valid N) else if d = 19 ∧ f = 17 then some (fs_streams_End N) else none, F := fun d => none }
theorem E_streams_Pending_F (N : Nat) (d : Nat) : (E_streams_Pending N).F d = none := rfl
theorem E_streams_Pending_T (N : Nat) : (E_streams_Pending N).T = tiOf Try.prog := rfl
theorem E_streams_Pending_G0 (N : Nat) : (E_streams_Pending N).G 7 19 = some (fs_streams_Valid N) := rfl
theorem E_streams_Pending_G1 (N : Nat) : (E_streams_Pending N).G 19 17 = some (fs_streams_End N) := rfl
theorem E_streams_Pending_ok (N : Nat) : GOk Try.prog { T := tiOf Try.prog, G := (E_streams_Pending N).G } := by
  intro d f fs hfs
  simp only [E_streams_Pending] at hfs
  by_cases hc : d = 7 ∧ f = 19
  · rw [if_pos hc] at hfs; obtain ⟨rfl, rfl⟩ := hc; obtain rfl := Option.some.inj hfs; exact fs_streams_Valid_ok N
  rw [if_neg hc] at hfs
  by_cases hc : d = 19 ∧ f = 17
  · rw [if_pos hc] at hfs; obtain ⟨rfl, rfl⟩ := hc; obtain rfl := Option.some.inj hfs; exact fs_streams_End_ok N
  rw [if_neg hc] at hfs
  cases hfs
theorem fo_streams_Pending : FunOk Try.prog 15 Try.f15 Try.f15.body.get! := ⟨Try.func15, rfl, by decide, by kernel_rfl⟩
attribute [go_sem] E_streams_Pending_T E_streams_Pending_F E_streams_Pending_G0 E_streams_Pending_G1
set_option maxHeartbeats 4000000 in
theorem w_streams_Pending (N : Nat) (a0 : Topic) (r : (List Delivery)) (h : streams_Pending N a0 = some r) : Con Try.prog 15 [] true [.agg [.val (.string a0.Name), .val (.int .i64 a0.First), .sl false none 1 none (a0.Events.map (rowI .i64)), .sl false none 4 none (a0.Subs.map Sub.row)]] (.sl true none 5 none (r.map Delivery.row)) := by
  refine fun_ok3 (E := E_streams_Pending N) (tiOf_ok Try.prog (E_streams_Pending N).G) (E_streams_Pending_ok N) mix fo_streams_Pending (Nat.le_of_ble_eq_true rfl) ?_
  intro _
  rw [entry_tab (by simp)]
  rw [show entryF [] [.agg [.val (.string a0.Name), .val (.int .i64 a0.First), .sl false none 1 none (a0.Events.map (rowI .i64)), .sl false none 4 none (a0.Subs.map Sub.row)]] = (updT deadT 0 (.agg [.val (.string a0.Name), .val (.int .i64 a0.First), .sl false none 1 none (a0.Events.map (rowI .i64)), .sl false none 4 none (a0.Subs.map Sub.row)])) from by funext t; match t with | 0 => rfl | t + 1 => rfl]
  apply Wk_start
  simp only [Try.f15, Option.get!, R0_RZ]
  unfold streams_Pending at h
  refine Wk_seq ?_
  refine Wk_regionZ fun Z hZ => ?_
  simp (config := { maxSteps := 4000000 }) only [go_sem, Nat.reduceLT, Nat.reduceEqDiff, Nat.reduceAdd, Nat.reduceBEq, Nat.reduceMul, Nat.reduceSub, reduceIte, Nat.reduceLeDiff, reduceCtorEq, Int.reduceNeg, Int.reduceToNat, Int.reduceEq, Int.reduceNe, Int.reduceLT, Int.reduceLE]
  refine hZ _ ?_
  repeat (with_reducible first | refine Pop.pop ?_ | refine ap_nil_i ?_ | refine ap_lp_i ?_ | refine ap_bl_next (by decide) ?_)
  refine Wk_seq ?_
  refine Wk_seq ?_
  obtain ⟨r1, hr1, h⟩ := Option.bind_eq_some_iff.1 h
  refine Wk_regionZ fun Z hZ => ?_
  simp (config := { maxSteps := 4000000 }) only [go_sem, Nat.reduceLT, Nat.reduceEqDiff, Nat.reduceAdd, Nat.reduceBEq, Nat.reduceMul, Nat.reduceSub, reduceIte, Nat.reduceLeDiff, reduceCtorEq, Int.reduceNeg, Int.reduceToNat, Int.reduceEq, Int.reduceNe, Int.reduceLT, Int.reduceLE, hr1]
  refine hZ _ ?_
  repeat (with_reducible first | refine Pop.pop ?_ | refine ap_nil_i ?_ | refine ap_lp_i ?_ | refine ap_bl_next (by decide) ?_)
  refine Wk_cond_nbool rfl (fun hc2 => ?_) (fun hc2 => ?_)
  · first | rw [if_neg (ne_true_of_eq_false hc2)] at h | simp only [hc2, Bool.or_false, Bool.or_true, Bool.false_or, Bool.true_or, Bool.and_true, Bool.true_and, Bool.and_false, Bool.false_and, Bool.not_true, Bool.not_false, Bool.false_eq_true, if_true, if_false] at h
    refine Wk_seq ?_
    refine Wk_regionZ fun Z hZ => ?_
    simp (config := { maxSteps := 4000000 }) only [go_sem, Nat.reduceLT, Nat.reduceEqDiff, Nat.reduceAdd, Nat.reduceBEq, Nat.reduceMul, Nat.reduceSub, reduceIte, Nat.reduceLeDiff, reduceCtorEq, Int.reduceNeg, Int.reduceToNat, Int.reduceEq, Int.reduceNe, Int.reduceLT, Int.reduceLE, hr1, hc2]
    refine hZ _ ?_
    repeat (with_reducible first | refine Pop.pop ?_ | refine ap_nil_i ?_ | refine ap_lp_i ?_ | refine ap_bl_next (by decide) ?_)
    refine Wk_ret ?_
    repeat (with_reducible first | refine Pop.pop ?_ | refine ap_nil_i ?_ | refine ap_lp_i ?_ | refine ap_bl_next (by decide) ?_)
    simp (config := { maxSteps := 4000000 }) only [go_sem, Nat.reduceLT, Nat.reduceEqDiff, Nat.reduceAdd, Nat.reduceBEq, Nat.reduceMul, Nat.reduceSub, reduceIte, Nat.reduceLeDiff, reduceCtorEq, Int.reduceNeg, Int.reduceToNat, Int.reduceEq, Int.reduceNe, Int.reduceLT, Int.reduceLE, hr1, hc2, FinW_ret, List.length_set, List.take_length]
    obtain rfl := Option.some.inj h
    exact ⟨_, rfl, (by repeat' (first | exact ROk.refl _ | exact ROk.nil _ | ((refine ROk.of _ ?_ ?_); (focus ((repeat' (first | exact Le.refl _ | exact LeL.nil | exact Le.nils | exact LeLL.refl _ | refine LeLL.mapAppend ?_ ?_ | refine LeLL.cons ?_ ?_ | refine Le.sl ?_ | refine Le.tup ?_ | refine Le.agg ?_ | refine LeL.cons ?_ ?_)); done)); (focus ((repeat' (first | exact NoOwn.val _ | exact NoOwn.sl _ _ _ _ | refine NoOwn.tup ?_ | refine NoOwn.agg ?_ | exact noOwn_nil | refine noOwn_cons ?_ ?_)); done))) | ((refine ROk.own ?_ ?_); (focus ((repeat' (first | exact Le.refl _ | exact LeL.nil | exact Le.nils | exact LeLL.refl _ | refine LeLL.mapAppend ?_ ?_ | refine LeLL.cons ?_ ?_ | refine Le.sl ?_ | refine Le.tup ?_ | refine Le.agg ?_ | refine LeL.cons ?_ ?_)); done)); (focus ((first | exact RowOk.noOwn (rowI_ok .i64) _ | exact RowOk.noOwn Delivery.row_ok _ | exact RowOk.noOwn Sub.row_ok _); done))) | refine ROk.agg rfl ?_ | refine ROk.tup rfl ?_ | exact rok_nil | refine rok_cons ?_ ?_)), (by (repeat' (first | exact PureC.val _ | refine PureC.tup ?_ | refine PureC.agg ?_ | exact pure_nil | refine pure_cons ?_ ?_ | refine PureC.sl ?_ | exact pure_rows (pure_rowI .i64) _ | exact pure_rows Delivery.row_pure _ | exact pure_rows Sub.row_pure _ |  exact pure_rows_nil | refine pure_rows_append ?_ ?_ | refine pure_rows_cons ?_ ?_)))⟩
  · first | rw [if_pos hc2] at h | simp only [hc2, Bool.or_false, Bool.or_true, Bool.false_or, Bool.true_or, Bool.and_true, Bool.true_and, Bool.and_false, Bool.false_and, Bool.not_true, Bool.not_false, Bool.false_eq_true, if_true, if_false] at h
    refine Wk_skip ?_
    repeat (with_reducible first | refine Pop.pop ?_ | refine ap_nil_i ?_ | refine ap_lp_i ?_ | refine ap_bl_next (by decide) ?_)
    refine Wk_seq ?_
    refine Wk_regionZ fun Z hZ => ?_
    simp (config := { maxSteps := 4000000 }) only [go_sem, Nat.reduceLT, Nat.reduceEqDiff, Nat.reduceAdd, Nat.reduceBEq, Nat.reduceMul, Nat.reduceSub, reduceIte, Nat.reduceLeDiff, reduceCtorEq, Int.reduceNeg, Int.reduceToNat, Int.reduceEq, Int.reduceNe, Int.reduceLT, Int.reduceLE, hr1, hc2]
    refine hZ _ ?_
    repeat (with_reducible first | refine Pop.pop ?_ | refine ap_nil_i ?_ | refine ap_lp_i ?_ | refine ap_bl_next (by decide) ?_)
    refine Wk_seq ?_
    refine Wk_seq ?_
    refine Wk_regionZ fun Z hZ => ?_
    simp (config := { maxSteps := 4000000 }) only [go_sem, Nat.reduceLT, Nat.reduceEqDiff, Nat.reduceAdd, Nat.reduceBEq, Nat.reduceMul, Nat.reduceSub, reduceIte, Nat.reduceLeDiff, reduceCtorEq, Int.reduceNeg, Int.reduceToNat, Int.reduceEq, Int.reduceNe, Int.reduceLT, Int.reduceLE, hr1, hc2]
    refine hZ _ ?_
    repeat (with_reducible first | refine Pop.pop ?_ | refine ap_nil_i ?_ | refine ap_lp_i ?_ | refine ap_bl_next (by decide) ?_)
    refine Wk_block ?_
    refine Wk_real fun hreal4 => ?_
    have hl3 := hreal4.lenT 10 (by decide) (by simp only [go_sem, Nat.reduceLT, Nat.reduceEqDiff, Nat.reduceAdd, Nat.reduceBEq, Nat.reduceMul, Nat.reduceSub, reduceIte, Nat.reduceLeDiff, reduceCtorEq, Int.reduceNeg, Int.reduceToNat, Int.reduceEq, Int.reduceNe, Int.reduceLT, Int.reduceLE, Bool.or_self, List.length_set, Int.natCast_zero, Int.cast_ofNat_Int, hr1, hc2]; rfl)
    rw [List.length_map] at hl3
    refine Wk_range (fun (v5 : Nat) (b : List Delivery) => ⟨tab 42 (updT (updT (updT (updT (updT deadT 1 (.pref 1 [] 0 0)) 3 (.pal 39 [] 0 b.length none)) 10 (.sl false none 4 none (a0.Subs.map Sub.row))) 11 (.val (.int .i64 ((a0.Subs.length : Nat) : Int)))) 12 (.val (.int .i64 ((v5 : Nat) : Int)))), (upd (upd RZ 1 (.sl true none 4 (some 1) [[.val (.string a0.Name), .val (.int .i64 a0.First), .sl false none 1 none (a0.Events.map (rowI .i64)), .sl false none 4 none (a0.Subs.map Sub.row)]])) 39 (.sl true none 5 none (b.map Delivery.row)))⟩) [] h ?_ ?_
    · refine Weak.trans (weak_adopt 3 39 5 (by simp only [go_sem, Nat.reduceLT, Nat.reduceEqDiff, Nat.reduceAdd, Nat.reduceBEq, Nat.reduceMul, Nat.reduceSub, reduceIte, Nat.reduceLeDiff, reduceCtorEq, Int.reduceNeg, Int.reduceToNat, Int.reduceEq, Int.reduceNe, Int.reduceLT, Int.reduceLE, Bool.or_self, List.length_set, Int.natCast_zero, Int.cast_ofNat_Int, hr1, hc2]) (by simp only [go_sem, Nat.reduceLT, Nat.reduceEqDiff, Nat.reduceAdd, Nat.reduceBEq, Nat.reduceMul, Nat.reduceSub, reduceIte, Nat.reduceLeDiff, reduceCtorEq, Int.reduceNeg, Int.reduceToNat, Int.reduceEq, Int.reduceNe, Int.reduceLT, Int.reduceLE, Bool.or_self, List.length_set, Int.natCast_zero, Int.cast_ofNat_Int, hr1, hc2])) ?_
      refine weak_roots ?_ ?_
      · (repeat' (first | exact weakX_nil | refine weakX_cons ?_ ?_)) <;> (first | rfl | simp only [go_sem, Nat.reduceLT, Nat.reduceEqDiff, Nat.reduceAdd, Nat.reduceBEq, Nat.reduceMul, Nat.reduceSub, reduceIte, Nat.reduceLeDiff, reduceCtorEq, Int.reduceNeg, Int.reduceToNat, Int.reduceEq, Int.reduceNe, Int.reduceLT, Int.reduceLE, Bool.or_self, List.length_set, Int.natCast_zero, Int.cast_ofNat_Int, hr1, hc2])
      · (repeat' (first | exact weakR_nil | refine weakR_cons ?_ ?_ ?_)) <;> (first | rfl | simp only [go_sem, Nat.reduceLT, Nat.reduceEqDiff, Nat.reduceAdd, Nat.reduceBEq, Nat.reduceMul, Nat.reduceSub, reduceIte, Nat.reduceLeDiff, reduceCtorEq, Int.reduceNeg, Int.reduceToNat, Int.reduceEq, Int.reduceNe, Int.reduceLT, Int.reduceLE, Bool.or_self, List.length_set, Int.natCast_zero, Int.cast_ofNat_Int, hr1, hc2])
    · rintro v5 l4 hi5 h -
      rcases drop_cases a0.Subs v5 hi5 with ⟨x8, hi5', hx6, hd8⟩ | ⟨hi5', _, hd8⟩
      · rw [hd8] at h
        simp only [streams_Pending_L1] at h
        have hw7 := wrap_succ hi5' hl3
        refine Wk_seq ?_
        refine Wk_regionZ fun Z hZ => ?_
        simp (config := { maxSteps := 4000000 }) only [go_sem, Nat.reduceLT, Nat.reduceEqDiff, Nat.reduceAdd, Nat.reduceBEq, Nat.reduceMul, Nat.reduceSub, reduceIte, Nat.reduceLeDiff, reduceCtorEq, Int.reduceNeg, Int.reduceToNat, Int.reduceEq, Int.reduceNe, Int.reduceLT, Int.reduceLE, hr1, hc2, hx6, hi5', hw7]
        refine hZ _ ?_
        repeat (with_reducible first | refine Pop.pop ?_ | refine ap_nil_i ?_ | refine ap_lp_i ?_ | refine ap_bl_next (by decide) ?_)
        refine Wk_seq ?_
        try simp only [Int.ofNat_lt, hi5', if_true, if_false] at h
        refine Wk_cond_t rfl ?_
        refine Wk_skip ?_
        repeat (with_reducible first | refine Pop.pop ?_ | refine ap_nil_i ?_ | refine ap_lp_i ?_ | refine ap_bl_next (by decide) ?_)
        refine Wk_seq ?_
        refine Wk_block ?_
        refine Wk_seq ?_
        try rw [gx_nat hx6] at h
        refine Wk_regionZ fun Z hZ => ?_
        simp (config := { maxSteps := 4000000 }) only [go_sem, Nat.reduceLT, Nat.reduceEqDiff, Nat.reduceAdd, Nat.reduceBEq, Nat.reduceMul, Nat.reduceSub, reduceIte, Nat.reduceLeDiff, reduceCtorEq, Int.reduceNeg, Int.reduceToNat, Int.reduceEq, Int.reduceNe, Int.reduceLT, Int.reduceLE, hr1, hc2, hx6, hi5', hw7]
        refine hZ _ ?_
        repeat (with_reducible first | refine Pop.pop ?_ | refine ap_nil_i ?_ | refine ap_lp_i ?_ | refine ap_bl_next (by decide) ?_)
        refine Wk_seq ?_
        obtain ⟨r2, hr9, h⟩ := Option.bind_eq_some_iff.1 h
        refine Wk_regionD fun Z hZ => ?_
        simp (config := { maxSteps := 4000000 }) only [go_sem, Nat.reduceLT, Nat.reduceEqDiff, Nat.reduceAdd, Nat.reduceBEq, Nat.reduceMul, Nat.reduceSub, reduceIte, Nat.reduceLeDiff, reduceCtorEq, Int.reduceNeg, Int.reduceToNat, Int.reduceEq, Int.reduceNe, Int.reduceLT, Int.reduceLE, hr1, hc2, hx6, hi5', hw7, hr9]
        repeat' ((with_reducible refine and_bar ?_ ?_); kernel_rfl)
        refine hZ _ (by kernel_rfl) ?_
        repeat (with_reducible first | refine Pop.pop ?_ | refine ap_nil_i ?_ | refine ap_lp_i ?_ | refine ap_bl_next (by decide) ?_)
        refine Wk_cond_dec rfl (fun hc10 => ?_) (fun hc10 => ?_)
        · have hc10d := decide_eq_true hc10
          first | rw [if_pos hc10] at h | rw [if_pos hc10d] at h | simp only [hc10d, Bool.not_true, Bool.not_false, Bool.false_eq_true, if_true, if_false] at h
          obtain ⟨x3, hb11, hx12, h⟩ := gx_some h
          obtain ⟨ha13, h⟩ := apx_some h
          simp only [List.length_cons, List.length_nil, Nat.zero_add, Nat.add_zero, Nat.reduceAdd] at ha13
          refine Wk_regionD fun Z hZ => ?_
          simp (config := { maxSteps := 4000000 }) only [go_sem, Nat.reduceLT, Nat.reduceEqDiff, Nat.reduceAdd, Nat.reduceBEq, Nat.reduceMul, Nat.reduceSub, reduceIte, Nat.reduceLeDiff, reduceCtorEq, Int.reduceNeg, Int.reduceToNat, Int.reduceEq, Int.reduceNe, Int.reduceLT, Int.reduceLE, hr1, hc2, hx6, hi5', hw7, hr9, hc10d, hb11, hx12, ha13]
          repeat' ((with_reducible refine and_bar ?_ ?_); kernel_rfl)
          refine hZ _ (by kernel_rfl) ?_
          repeat (with_reducible first | refine Pop.pop ?_ | refine ap_nil_i ?_ | refine ap_lp_i ?_ | refine ap_bl_next (by decide) ?_)
          refine Wk_regionZ fun Z hZ => ?_
          simp (config := { maxSteps := 4000000 }) only [go_sem, Nat.reduceLT, Nat.reduceEqDiff, Nat.reduceAdd, Nat.reduceBEq, Nat.reduceMul, Nat.reduceSub, reduceIte, Nat.reduceLeDiff, reduceCtorEq, Int.reduceNeg, Int.reduceToNat, Int.reduceEq, Int.reduceNe, Int.reduceLT, Int.reduceLE, hr1, hc2, hx6, hi5', hw7, hr9, hc10d, hb11, hx12, ha13]
          refine hZ _ ?_
          repeat (with_reducible first | refine Pop.pop ?_ | refine ap_nil_i ?_ | refine ap_lp_i ?_ | refine ap_bl_next (by decide) ?_)
          first | refine ⟨(l4 ++ [(Delivery.mk x8.Target x8.Method x8.Cursor x3)]), ?_, h⟩ | refine ⟨hi5', (l4 ++ [(Delivery.mk x8.Target x8.Method x8.Cursor x3)]), ?_, h⟩
          refine weak_roots ?_ ?_
          · (repeat' (first | exact weakX_nil | refine weakX_cons ?_ ?_)) <;> (first | rfl | simp only [go_sem, Nat.reduceLT, Nat.reduceEqDiff, Nat.reduceAdd, Nat.reduceBEq, Nat.reduceMul, Nat.reduceSub, reduceIte, Nat.reduceLeDiff, reduceCtorEq, Int.reduceNeg, Int.reduceToNat, Int.reduceEq, Int.reduceNe, Int.reduceLT, Int.reduceLE, Bool.or_self, List.length_set, Int.natCast_zero, Int.cast_ofNat_Int, hr1, hc2, hx6, hi5', hw7, hr9, hc10d, hb11, hx12, ha13])
          · (repeat' (first | exact weakR_nil | refine weakR_cons ?_ ?_ ?_)) <;> (first | rfl | simp only [go_sem, Nat.reduceLT, Nat.reduceEqDiff, Nat.reduceAdd, Nat.reduceBEq, Nat.reduceMul, Nat.reduceSub, reduceIte, Nat.reduceLeDiff, reduceCtorEq, Int.reduceNeg, Int.reduceToNat, Int.reduceEq, Int.reduceNe, Int.reduceLT, Int.reduceLE, Bool.or_self, List.length_set, Int.natCast_zero, Int.cast_ofNat_Int, hr1, hc2, hx6, hi5', hw7, hr9, hc10d, hb11, hx12, ha13])
        · have hc10d := decide_eq_false hc10
          first | rw [if_neg hc10] at h | rw [if_neg (ne_true_of_eq_false hc10d)] at h | simp only [hc10d, Bool.not_true, Bool.not_false, Bool.false_eq_true, if_true, if_false] at h
          refine Wk_skip ?_
          repeat (with_reducible first | refine Pop.pop ?_ | refine ap_nil_i ?_ | refine ap_lp_i ?_ | refine ap_bl_next (by decide) ?_)
          refine Wk_regionZ fun Z hZ => ?_
          simp (config := { maxSteps := 4000000 }) only [go_sem, Nat.reduceLT, Nat.reduceEqDiff, Nat.reduceAdd, Nat.reduceBEq, Nat.reduceMul, Nat.reduceSub, reduceIte, Nat.reduceLeDiff, reduceCtorEq, Int.reduceNeg, Int.reduceToNat, Int.reduceEq, Int.reduceNe, Int.reduceLT, Int.reduceLE, hr1, hc2, hx6, hi5', hw7, hr9, hc10d]
          refine hZ _ ?_
          repeat (with_reducible first | refine Pop.pop ?_ | refine ap_nil_i ?_ | refine ap_lp_i ?_ | refine ap_bl_next (by decide) ?_)
          first | refine ⟨l4, ?_, h⟩ | refine ⟨hi5', l4, ?_, h⟩
          refine weak_roots ?_ ?_
          · (repeat' (first | exact weakX_nil | refine weakX_cons ?_ ?_)) <;> (first | rfl | simp only [go_sem, Nat.reduceLT, Nat.reduceEqDiff, Nat.reduceAdd, Nat.reduceBEq, Nat.reduceMul, Nat.reduceSub, reduceIte, Nat.reduceLeDiff, reduceCtorEq, Int.reduceNeg, Int.reduceToNat, Int.reduceEq, Int.reduceNe, Int.reduceLT, Int.reduceLE, Bool.or_self, List.length_set, Int.natCast_zero, Int.cast_ofNat_Int, hr1, hc2, hx6, hi5', hw7, hr9, hc10d])
          · (repeat' (first | exact weakR_nil | refine weakR_cons ?_ ?_ ?_)) <;> (first | rfl | simp only [go_sem, Nat.reduceLT, Nat.reduceEqDiff, Nat.reduceAdd, Nat.reduceBEq, Nat.reduceMul, Nat.reduceSub, reduceIte, Nat.reduceLeDiff, reduceCtorEq, Int.reduceNeg, Int.reduceToNat, Int.reduceEq, Int.reduceNe, Int.reduceLT, Int.reduceLE, Bool.or_self, List.length_set, Int.natCast_zero, Int.cast_ofNat_Int, hr1, hc2, hx6, hi5', hw7, hr9, hc10d])
      · rw [hd8] at h
        simp only [streams_Pending_L1] at h
        refine Wk_seq ?_
        refine Wk_regionZ fun Z hZ => ?_
        simp (config := { maxSteps := 4000000 }) only [go_sem, Nat.reduceLT, Nat.reduceEqDiff, Nat.reduceAdd, Nat.reduceBEq, Nat.reduceMul, Nat.reduceSub, reduceIte, Nat.reduceLeDiff, reduceCtorEq, Int.reduceNeg, Int.reduceToNat, Int.reduceEq, Int.reduceNe, Int.reduceLT, Int.reduceLE, hr1, hc2, hi5']
        refine hZ _ ?_
        repeat (with_reducible first | refine Pop.pop ?_ | refine ap_nil_i ?_ | refine ap_lp_i ?_ | refine ap_bl_next (by decide) ?_)
        refine Wk_seq ?_
        try simp only [Int.ofNat_lt, hi5', if_true, if_false] at h
        refine Wk_cond_f rfl ?_
        refine Wk_exit ?_
        repeat (with_reducible first | refine Pop.pop ?_ | refine ap_nil_i ?_ | refine ap_lp_i ?_ | refine ap_bl_next (by decide) ?_)
        refine Wk_seq ?_
        refine Wk_regionZ fun Z hZ => ?_
        simp (config := { maxSteps := 4000000 }) only [go_sem, Nat.reduceLT, Nat.reduceEqDiff, Nat.reduceAdd, Nat.reduceBEq, Nat.reduceMul, Nat.reduceSub, reduceIte, Nat.reduceLeDiff, reduceCtorEq, Int.reduceNeg, Int.reduceToNat, Int.reduceEq, Int.reduceNe, Int.reduceLT, Int.reduceLE, hr1, hc2, hi5']
        refine hZ _ ?_
        repeat (with_reducible first | refine Pop.pop ?_ | refine ap_nil_i ?_ | refine ap_lp_i ?_ | refine ap_bl_next (by decide) ?_)
        refine Wk_ret ?_
        repeat (with_reducible first | refine Pop.pop ?_ | refine ap_nil_i ?_ | refine ap_lp_i ?_ | refine ap_bl_next (by decide) ?_)
        simp (config := { maxSteps := 4000000 }) only [go_sem, Nat.reduceLT, Nat.reduceEqDiff, Nat.reduceAdd, Nat.reduceBEq, Nat.reduceMul, Nat.reduceSub, reduceIte, Nat.reduceLeDiff, reduceCtorEq, Int.reduceNeg, Int.reduceToNat, Int.reduceEq, Int.reduceNe, Int.reduceLT, Int.reduceLE, hr1, hc2, hi5', FinW_ret, List.length_set, List.take_length]
        obtain rfl := Option.some.inj h
        exact ⟨_, rfl, (by repeat' (first | exact ROk.refl _ | exact ROk.nil _ | ((refine ROk.of _ ?_ ?_); (focus ((repeat' (first | exact Le.refl _ | exact LeL.nil | exact Le.nils | exact LeLL.refl _ | refine LeLL.mapAppend ?_ ?_ | refine LeLL.cons ?_ ?_ | refine Le.sl ?_ | refine Le.tup ?_ | refine Le.agg ?_ | refine LeL.cons ?_ ?_)); done)); (focus ((repeat' (first | exact NoOwn.val _ | exact NoOwn.sl _ _ _ _ | refine NoOwn.tup ?_ | refine NoOwn.agg ?_ | exact noOwn_nil | refine noOwn_cons ?_ ?_)); done))) | ((refine ROk.own ?_ ?_); (focus ((repeat' (first | exact Le.refl _ | exact LeL.nil | exact Le.nils | exact LeLL.refl _ | refine LeLL.mapAppend ?_ ?_ | refine LeLL.cons ?_ ?_ | refine Le.sl ?_ | refine Le.tup ?_ | refine Le.agg ?_ | refine LeL.cons ?_ ?_)); done)); (focus ((first | exact RowOk.noOwn (rowI_ok .i64) _ | exact RowOk.noOwn Delivery.row_ok _ | exact RowOk.noOwn Sub.row_ok _); done))) | refine ROk.agg rfl ?_ | refine ROk.tup rfl ?_ | exact rok_nil | refine rok_cons ?_ ?_)), (by (repeat' (first | exact PureC.val _ | refine PureC.tup ?_ | refine PureC.agg ?_ | exact pure_nil | refine pure_cons ?_ ?_ | refine PureC.sl ?_ | exact pure_rows (pure_rowI .i64) _ | exact pure_rows Delivery.row_pure _ | exact pure_rows Sub.row_pure _ |  exact pure_rows_nil | refine pure_rows_append ?_ ?_ | refine pure_rows_cons ?_ ?_)))⟩
def fs_streams_Pending (N : Nat) : FnS := { own := [], pure := true, fn := fun cs => match cs with
  | [c0] => (Topic.decA c0).bind fun qc0 => (streams_Pending N qc0).map fun r => .sl false none 5 none (r.map Delivery.row)
  | _ => none }
theorem fs_streams_Pending_own (N : Nat) : (fs_streams_Pending N).own = [] := rfl
theorem fs_streams_Pending_pure (N : Nat) : (fs_streams_Pending N).pure = true := rfl
attribute [go_sem] fs_streams_Pending fs_streams_Pending_own fs_streams_Pending_pure
theorem fs_streams_Pending_ok (N : Nat) : FSOk Try.prog 15 (fs_streams_Pending N) := by
  refine ⟨fun cs r h => ?_, fun h => by cases h⟩
  simp only [fs_streams_Pending] at h
  split at h
  · simp only [Option.bind_eq_some_iff, Option.map_eq_some_iff] at h
    obtain ⟨q0, h0, r', hr, rfl⟩ := h
    exact (((w_streams_Pending N q0 r' hr).args (LeL.cons (Topic.decA_le h0) (LeL.nil))).res (by repeat' (first | exact ROk.refl _ | exact ROk.nil _ | ((refine ROk.of _ ?_ ?_); (focus ((repeat' (first | exact Le.refl _ | exact LeL.nil | exact Le.nils | exact LeLL.refl _ | refine LeLL.mapAppend ?_ ?_ | refine LeLL.cons ?_ ?_ | refine Le.sl ?_ | refine Le.tup ?_ | refine Le.agg ?_ | refine LeL.cons ?_ ?_)); done)); (focus ((repeat' (first | exact NoOwn.val _ | exact NoOwn.sl _ _ _ _ | refine NoOwn.tup ?_ | refine NoOwn.agg ?_ | exact noOwn_nil | refine noOwn_cons ?_ ?_)); done))) | ((refine ROk.own ?_ ?_); (focus ((repeat' (first | exact Le.refl _ | exact LeL.nil | exact Le.nils | exact LeLL.refl _ | refine LeLL.mapAppend ?_ ?_ | refine LeLL.cons ?_ ?_ | refine Le.sl ?_ | refine Le.tup ?_ | refine Le.agg ?_ | refine LeL.cons ?_ ?_)); done)); (focus ((first | exact RowOk.noOwn (rowI_ok .i64) _ | exact RowOk.noOwn Delivery.row_ok _ | exact RowOk.noOwn Sub.row_ok _); done))) | refine ROk.agg rfl ?_ | refine ROk.tup rfl ?_ | exact rok_nil | refine rok_cons ?_ ?_)))
  · cases h

def fso_streams_Pending (N : Nat) : FnS := { own := [], pure := true, fn := fun cs => match cs with
  | [c0] => (Topic.decA c0).bind fun qc0 => (streams_Pending N qc0).map fun r => .sl true none 5 none (r.map Delivery.row)
  | _ => none }
theorem fso_streams_Pending_own (N : Nat) : (fso_streams_Pending N).own = [] := rfl
theorem fso_streams_Pending_pure (N : Nat) : (fso_streams_Pending N).pure = true := rfl
attribute [go_sem] fso_streams_Pending fso_streams_Pending_own fso_streams_Pending_pure
theorem fso_streams_Pending_ok (N : Nat) : FSOk Try.prog 15 (fso_streams_Pending N) := by
  refine ⟨fun cs r h => ?_, fun h => by cases h⟩
  simp only [fso_streams_Pending] at h
  split at h
  · simp only [Option.bind_eq_some_iff, Option.map_eq_some_iff] at h
    obtain ⟨q0, h0, r', hr, rfl⟩ := h
    exact ((w_streams_Pending N q0 r' hr).args (LeL.cons (Topic.decA_le h0) (LeL.nil)))
  · cases h

end Go.Proofs.Ytpkfhjbgnpdgcaa
end
