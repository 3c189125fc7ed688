/- Each Go function computes its model: proofs laid by a program of ours. -/
import Derived.Test.YtpbloecedgddlaaB
section
set_option linter.unusedSimpArgs false
set_option linter.unusedVariables false
set_option maxRecDepth 100000
namespace Go.Proofs.Ytpbloecedgddlaa
open Go Go.Proofs Go.Abs
noncomputable def E_view_identifiers (N : Nat) : Env := { T := tiOf Try.prog, G := fun d f => none }
theorem E_view_identifiers_T (N : Nat) : (E_view_identifiers N).T = tiOf Try.prog := rfl
theorem E_view_identifiers_ok (N : Nat) : GOk Try.prog { T := tiOf Try.prog, G := (E_view_identifiers N).G } := by
  intro d f fs hfs
  cases hfs
theorem fo_view_identifiers : FunOk Try.prog 41 Try.f41 Try.f41.body.get! := ⟨Try.func41, rfl, by decide, by kernel_rfl⟩
attribute [go_sem] E_view_identifiers_T
set_option maxHeartbeats 4000000 in
theorem w_view_identifiers (N : Nat) (a0 : (List Int)) (a1 : Int) (r : Bool) (h : view_identifiers N a0 a1 = some r) : Con Try.prog 41 [] true [.sl false none 1 none (a0.map (rowI .i64)), .val (.int .i64 a1)] (.val (.bool r)) := by
  refine fun_ok2 (E := E_view_identifiers N) (tiOf_ok Try.prog _) (E_view_identifiers_ok N) mix fo_view_identifiers (Nat.le_of_ble_eq_true rfl) ?_
  intro _
  rw [entry_tab (by simp)]
  rw [show entryF [] [.sl false none 1 none (a0.map (rowI .i64)), .val (.int .i64 a1)] = (updT (updT deadT 0 (.sl false none 1 none (a0.map (rowI .i64)))) 1 (.val (.int .i64 a1))) from by funext t; match t with | 0 => rfl | 1 => rfl | t + 2 => rfl]
  apply W_start
  simp only [Try.f41, Option.get!, R0_RZ]
  unfold view_identifiers at h
  simp (config := { maxSteps := 4000000 }) only [go_sem, Nat.reduceLT, Nat.reduceEqDiff, Nat.reduceAdd, Nat.reduceBEq, Nat.reduceMul, Nat.reduceSub, reduceIte, Nat.reduceLeDiff, reduceCtorEq, Int.reduceNeg, Int.reduceToNat, Int.reduceEq, Int.reduceNe, Int.reduceLT, Int.reduceLE]
  refine RX_guard_dec rfl (fun hc1 => ?_) (fun hc1 => ?_)
  · have hc1d := decide_eq_true hc1
    first | rw [if_pos hc1] at h | rw [if_pos hc1d] at h | simp only [hc1d, Bool.not_true, Bool.not_false, Bool.false_eq_true, if_true, if_false] at h
    unfold view_identifiers_J1 at h
    simp (config := { maxSteps := 4000000 }) only [go_sem, Nat.reduceLT, Nat.reduceEqDiff, Nat.reduceAdd, Nat.reduceBEq, Nat.reduceMul, Nat.reduceSub, reduceIte, Nat.reduceLeDiff, reduceCtorEq, Int.reduceNeg, Int.reduceToNat, Int.reduceEq, Int.reduceNe, Int.reduceLT, Int.reduceLE, hc1d]
    refine W_cond_t rfl ?_
    first | rw [if_pos (rfl : true = true)] at h | rw [if_neg Bool.false_ne_true] at h | skip
    simp (config := { maxSteps := 4000000 }) only [go_sem, Nat.reduceLT, Nat.reduceEqDiff, Nat.reduceAdd, Nat.reduceBEq, Nat.reduceMul, Nat.reduceSub, reduceIte, Nat.reduceLeDiff, reduceCtorEq, Int.reduceNeg, Int.reduceToNat, Int.reduceEq, Int.reduceNe, Int.reduceLT, Int.reduceLE, hc1d, FinW_ret]
    obtain rfl := Option.some.inj h
    exact ⟨_, rfl, (by exact ROk.refl _), (by repeat' (first | exact PureC.val _ | refine PureC.tup ?_ | refine PureC.agg ?_ | exact pure_nil | refine pure_cons ?_ ?_))⟩
  · have hc1d := decide_eq_false hc1
    first | rw [if_neg hc1] at h | rw [if_neg (ne_true_of_eq_false hc1d)] at h | simp only [hc1d, Bool.not_true, Bool.not_false, Bool.false_eq_true, if_true, if_false] at h
    unfold view_identifiers_J1 at h
    simp (config := { maxSteps := 4000000 }) only [go_sem, Nat.reduceLT, Nat.reduceEqDiff, Nat.reduceAdd, Nat.reduceBEq, Nat.reduceMul, Nat.reduceSub, reduceIte, Nat.reduceLeDiff, reduceCtorEq, Int.reduceNeg, Int.reduceToNat, Int.reduceEq, Int.reduceNe, Int.reduceLT, Int.reduceLE, hc1d]
    refine W_cond_dec rfl (fun hc2 => ?_) (fun hc2 => ?_)
    · have hc2d := decide_eq_true hc2
      first | rw [if_pos hc2] at h | rw [if_pos hc2d] at h | simp only [hc2d, Bool.not_true, Bool.not_false, Bool.false_eq_true, if_true, if_false] at h
      simp (config := { maxSteps := 4000000 }) only [go_sem, Nat.reduceLT, Nat.reduceEqDiff, Nat.reduceAdd, Nat.reduceBEq, Nat.reduceMul, Nat.reduceSub, reduceIte, Nat.reduceLeDiff, reduceCtorEq, Int.reduceNeg, Int.reduceToNat, Int.reduceEq, Int.reduceNe, Int.reduceLT, Int.reduceLE, hc1d, hc2d, FinW_ret]
      obtain rfl := Option.some.inj h
      exact ⟨_, rfl, (by exact ROk.refl _), (by repeat' (first | exact PureC.val _ | refine PureC.tup ?_ | refine PureC.agg ?_ | exact pure_nil | refine pure_cons ?_ ?_))⟩
    · have hc2d := decide_eq_false hc2
      first | rw [if_neg hc2] at h | rw [if_neg (ne_true_of_eq_false hc2d)] at h | simp only [hc2d, Bool.not_true, Bool.not_false, Bool.false_eq_true, if_true, if_false] at h
      unfold view_identifiers_J4 at h
      simp (config := { maxSteps := 4000000 }) only [go_sem, Nat.reduceLT, Nat.reduceEqDiff, Nat.reduceAdd, Nat.reduceBEq, Nat.reduceMul, Nat.reduceSub, reduceIte, Nat.reduceLeDiff, reduceCtorEq, Int.reduceNeg, Int.reduceToNat, Int.reduceEq, Int.reduceNe, Int.reduceLT, Int.reduceLE, hc1d, hc2d]
      refine W_real fun hreal4 => ?_
      have hl3 := hreal4.lenT 0 (by decide) (by simp only [go_sem, Nat.reduceLT, Nat.reduceEqDiff, Nat.reduceAdd, Nat.reduceBEq, Nat.reduceMul, Nat.reduceSub, reduceIte, Nat.reduceLeDiff, reduceCtorEq, Int.reduceNeg, Int.reduceToNat, Int.reduceEq, Int.reduceNe, Int.reduceLT, Int.reduceLE, Bool.or_self, List.length_set, Int.natCast_zero, Int.cast_ofNat_Int, hc1d, hc2d]; rfl)
      rw [List.length_map] at hl3
      refine W_range (fun (v6 : Nat) (b : Int) => ⟨tab 32 (updT (updT (updT (updT deadT 5 (.val (.int .i64 b))) 17 (.sl false none 1 none (a0.map (rowI .i64)))) 18 (.val (.int .i64 ((a0.length : Nat) : Int)))) 19 (.val (.int .i64 ((v6 : Nat) : Int)))), RZ⟩) 0 h ?_ ?_
      · refine weak_roots ?_ ?_
        · (repeat' (first | exact weakX_nil | refine weakX_cons ?_ ?_)) <;> (first | rfl | simp only [go_sem, Nat.reduceLT, Nat.reduceEqDiff, Nat.reduceAdd, Nat.reduceBEq, Nat.reduceMul, Nat.reduceSub, reduceIte, Nat.reduceLeDiff, reduceCtorEq, Int.reduceNeg, Int.reduceToNat, Int.reduceEq, Int.reduceNe, Int.reduceLT, Int.reduceLE, Bool.or_self, List.length_set, Int.natCast_zero, Int.cast_ofNat_Int, hc1d, hc2d])
        · (repeat' (first | exact weakR_nil | refine weakR_cons ?_ ?_ ?_)) <;> (first | rfl | simp only [go_sem, Nat.reduceLT, Nat.reduceEqDiff, Nat.reduceAdd, Nat.reduceBEq, Nat.reduceMul, Nat.reduceSub, reduceIte, Nat.reduceLeDiff, reduceCtorEq, Int.reduceNeg, Int.reduceToNat, Int.reduceEq, Int.reduceNe, Int.reduceLT, Int.reduceLE, Bool.or_self, List.length_set, Int.natCast_zero, Int.cast_ofNat_Int, hc1d, hc2d])
      · rintro v6 v5 hi5 h -
        rcases drop_cases a0 v6 hi5 with ⟨x9, hi5', hx6, hd8⟩ | ⟨hi5', _, hd8⟩
        · rw [hd8] at h
          simp only [view_identifiers_L1] at h
          have hw7 := wrap_succ hi5' hl3
          simp (config := { maxSteps := 4000000 }) only [go_sem, Nat.reduceLT, Nat.reduceEqDiff, Nat.reduceAdd, Nat.reduceBEq, Nat.reduceMul, Nat.reduceSub, reduceIte, Nat.reduceLeDiff, reduceCtorEq, Int.reduceNeg, Int.reduceToNat, Int.reduceEq, Int.reduceNe, Int.reduceLT, Int.reduceLE, hc1d, hc2d, hx6, hi5', hw7]
          refine W_cond_t rfl ?_
          simp (config := { maxSteps := 4000000 }) only [go_sem, Nat.reduceLT, Nat.reduceEqDiff, Nat.reduceAdd, Nat.reduceBEq, Nat.reduceMul, Nat.reduceSub, reduceIte, Nat.reduceLeDiff, reduceCtorEq, Int.reduceNeg, Int.reduceToNat, Int.reduceEq, Int.reduceNe, Int.reduceLT, Int.reduceLE, hc1d, hc2d, hx6, hi5', hw7]
          refine RX_guard_dec rfl (fun hc9 => ?_) (fun hc9 => ?_)
          · have hc9d := decide_eq_true hc9
            first | rw [if_pos hc9] at h | rw [if_pos hc9d] at h | simp only [hc9d, Bool.not_true, Bool.not_false, Bool.false_eq_true, if_true, if_false] at h
            unfold view_identifiers_J2 at h
            simp (config := { maxSteps := 4000000 }) only [go_sem, Nat.reduceLT, Nat.reduceEqDiff, Nat.reduceAdd, Nat.reduceBEq, Nat.reduceMul, Nat.reduceSub, reduceIte, Nat.reduceLeDiff, reduceCtorEq, Int.reduceNeg, Int.reduceToNat, Int.reduceEq, Int.reduceNe, Int.reduceLT, Int.reduceLE, hc1d, hc2d, hx6, hi5', hw7, hc9d]
            refine W_cond_t rfl ?_
            first | rw [if_pos (rfl : true = true)] at h | rw [if_neg Bool.false_ne_true] at h | skip
            simp (config := { maxSteps := 4000000 }) only [go_sem, Nat.reduceLT, Nat.reduceEqDiff, Nat.reduceAdd, Nat.reduceBEq, Nat.reduceMul, Nat.reduceSub, reduceIte, Nat.reduceLeDiff, reduceCtorEq, Int.reduceNeg, Int.reduceToNat, Int.reduceEq, Int.reduceNe, Int.reduceLT, Int.reduceLE, hc1d, hc2d, hx6, hi5', hw7, hc9d, FinW_ret]
            obtain rfl := Option.some.inj h
            exact ⟨_, rfl, (by exact ROk.refl _), (by repeat' (first | exact PureC.val _ | refine PureC.tup ?_ | refine PureC.agg ?_ | exact pure_nil | refine pure_cons ?_ ?_))⟩
          · have hc9d := decide_eq_false hc9
            first | rw [if_neg hc9] at h | rw [if_neg (ne_true_of_eq_false hc9d)] at h | simp only [hc9d, Bool.not_true, Bool.not_false, Bool.false_eq_true, if_true, if_false] at h
            unfold view_identifiers_J2 at h
            simp (config := { maxSteps := 4000000 }) only [go_sem, Nat.reduceLT, Nat.reduceEqDiff, Nat.reduceAdd, Nat.reduceBEq, Nat.reduceMul, Nat.reduceSub, reduceIte, Nat.reduceLeDiff, reduceCtorEq, Int.reduceNeg, Int.reduceToNat, Int.reduceEq, Int.reduceNe, Int.reduceLT, Int.reduceLE, hc1d, hc2d, hx6, hi5', hw7, hc9d]
            refine W_cond_dec rfl (fun hc10 => ?_) (fun hc10 => ?_)
            · have hc10d := decide_eq_true hc10
              first | rw [if_pos hc10] at h | rw [if_pos hc10d] at h | simp only [hc10d, Bool.not_true, Bool.not_false, Bool.false_eq_true, if_true, if_false] at h
              simp (config := { maxSteps := 4000000 }) only [go_sem, Nat.reduceLT, Nat.reduceEqDiff, Nat.reduceAdd, Nat.reduceBEq, Nat.reduceMul, Nat.reduceSub, reduceIte, Nat.reduceLeDiff, reduceCtorEq, Int.reduceNeg, Int.reduceToNat, Int.reduceEq, Int.reduceNe, Int.reduceLT, Int.reduceLE, hc1d, hc2d, hx6, hi5', hw7, hc9d, hc10d, FinW_ret]
              obtain rfl := Option.some.inj h
              exact ⟨_, rfl, (by exact ROk.refl _), (by repeat' (first | exact PureC.val _ | refine PureC.tup ?_ | refine PureC.agg ?_ | exact pure_nil | refine pure_cons ?_ ?_))⟩
            · have hc10d := decide_eq_false hc10
              first | rw [if_neg hc10] at h | rw [if_neg (ne_true_of_eq_false hc10d)] at h | simp only [hc10d, Bool.not_true, Bool.not_false, Bool.false_eq_true, if_true, if_false] at h
              unfold view_identifiers_J3 at h
              simp (config := { maxSteps := 4000000 }) only [go_sem, Nat.reduceLT, Nat.reduceEqDiff, Nat.reduceAdd, Nat.reduceBEq, Nat.reduceMul, Nat.reduceSub, reduceIte, Nat.reduceLeDiff, reduceCtorEq, Int.reduceNeg, Int.reduceToNat, Int.reduceEq, Int.reduceNe, Int.reduceLT, Int.reduceLE, hc1d, hc2d, hx6, hi5', hw7, hc9d, hc10d]
              first | refine ⟨x9, ?_, h⟩ | refine ⟨hi5', x9, ?_, h⟩
              refine weak_roots ?_ ?_
              · (repeat' (first | exact weakX_nil | refine weakX_cons ?_ ?_)) <;> (first | rfl | simp only [go_sem, Nat.reduceLT, Nat.reduceEqDiff, Nat.reduceAdd, Nat.reduceBEq, Nat.reduceMul, Nat.reduceSub, reduceIte, Nat.reduceLeDiff, reduceCtorEq, Int.reduceNeg, Int.reduceToNat, Int.reduceEq, Int.reduceNe, Int.reduceLT, Int.reduceLE, Bool.or_self, List.length_set, Int.natCast_zero, Int.cast_ofNat_Int, hc1d, hc2d, hx6, hi5', hw7, hc9d, hc10d])
              · (repeat' (first | exact weakR_nil | refine weakR_cons ?_ ?_ ?_)) <;> (first | rfl | simp only [go_sem, Nat.reduceLT, Nat.reduceEqDiff, Nat.reduceAdd, Nat.reduceBEq, Nat.reduceMul, Nat.reduceSub, reduceIte, Nat.reduceLeDiff, reduceCtorEq, Int.reduceNeg, Int.reduceToNat, Int.reduceEq, Int.reduceNe, Int.reduceLT, Int.reduceLE, Bool.or_self, List.length_set, Int.natCast_zero, Int.cast_ofNat_Int, hc1d, hc2d, hx6, hi5', hw7, hc9d, hc10d])
        · rw [hd8] at h
          simp only [view_identifiers_L1] at h
          simp (config := { maxSteps := 4000000 }) only [go_sem, Nat.reduceLT, Nat.reduceEqDiff, Nat.reduceAdd, Nat.reduceBEq, Nat.reduceMul, Nat.reduceSub, reduceIte, Nat.reduceLeDiff, reduceCtorEq, Int.reduceNeg, Int.reduceToNat, Int.reduceEq, Int.reduceNe, Int.reduceLT, Int.reduceLE, hc1d, hc2d, hi5']
          refine W_cond_f rfl ?_
          simp (config := { maxSteps := 4000000 }) only [go_sem, Nat.reduceLT, Nat.reduceEqDiff, Nat.reduceAdd, Nat.reduceBEq, Nat.reduceMul, Nat.reduceSub, reduceIte, Nat.reduceLeDiff, reduceCtorEq, Int.reduceNeg, Int.reduceToNat, Int.reduceEq, Int.reduceNe, Int.reduceLT, Int.reduceLE, hc1d, hc2d, hi5', FinW_ret]
          obtain rfl := Option.some.inj h
          exact ⟨_, rfl, (by exact ROk.refl _), (by repeat' (first | exact PureC.val _ | refine PureC.tup ?_ | refine PureC.agg ?_ | exact pure_nil | refine pure_cons ?_ ?_))⟩
def fs_view_identifiers (N : Nat) : FnS := { own := [], pure := true, fn := fun cs => match cs with
  | [c0, c1] => ((decL 1 (dec1 (decI .i64))) c0).bind fun qc0 => ((decI .i64) c1).bind fun qc1 => (view_identifiers N qc0 qc1).map fun r => .val (.bool r)
  | _ => none }
theorem fs_view_identifiers_own (N : Nat) : (fs_view_identifiers N).own = [] := rfl
theorem fs_view_identifiers_pure (N : Nat) : (fs_view_identifiers N).pure = true := rfl
attribute [go_sem] fs_view_identifiers fs_view_identifiers_own fs_view_identifiers_pure
theorem fs_view_identifiers_ok (N : Nat) : FSOk Try.prog 41 (fs_view_identifiers N) := by
  refine ⟨fun cs r h => ?_, fun h => by cases h⟩
  simp only [fs_view_identifiers] at h
  split at h
  · simp only [Option.bind_eq_some_iff, Option.map_eq_some_iff] at h
    obtain ⟨q0, h0, q1, h1, r', hr, rfl⟩ := h
    exact ((w_view_identifiers N q0 q1 r' hr).args (LeL.cons (decL_le (decI1_le .i64) h0) (LeL.cons (decI_le h1) (LeL.nil))))
  · cases h

end Go.Proofs.Ytpbloecedgddlaa
end

section
set_option linter.unusedSimpArgs false
set_option linter.unusedVariables false
set_option maxRecDepth 100000
namespace Go.Proofs.Ytpbloecedgddlaa
open Go Go.Proofs Go.Abs
noncomputable def E_view_ValidMembers (N : Nat) : Env := { T := tiOf Try.prog, G := fun d f => if d = 4 ∧ f = 41 then some (fs_view_identifiers N) else none }
theorem E_view_ValidMembers_T (N : Nat) : (E_view_ValidMembers N).T = tiOf Try.prog := rfl
theorem E_view_ValidMembers_G0 (N : Nat) : (E_view_ValidMembers N).G 4 41 = some (fs_view_identifiers N) := rfl
theorem E_view_ValidMembers_ok (N : Nat) : GOk Try.prog { T := tiOf Try.prog, G := (E_view_ValidMembers N).G } := by
  intro d f fs hfs
  simp only [E_view_ValidMembers] at hfs
  by_cases hc : d = 4 ∧ f = 41
  · rw [if_pos hc] at hfs; obtain ⟨rfl, rfl⟩ := hc; obtain rfl := Option.some.inj hfs; exact fs_view_identifiers_ok N
  rw [if_neg hc] at hfs
  cases hfs
theorem fo_view_ValidMembers : FunOk Try.prog 35 Try.f35 Try.f35.body.get! := ⟨Try.func35, rfl, by decide, by kernel_rfl⟩
attribute [go_sem] E_view_ValidMembers_T E_view_ValidMembers_G0
set_option maxHeartbeats 4000000 in
theorem w_view_ValidMembers (N : Nat) (a0 : (List Int)) (r : Bool) (h : view_ValidMembers N a0 = some r) : Con Try.prog 35 [] true [.sl false none 1 none (a0.map (rowI .i64))] (.val (.bool r)) := by
  refine fun_ok2 (E := E_view_ValidMembers N) (tiOf_ok Try.prog _) (E_view_ValidMembers_ok N) mix fo_view_ValidMembers (Nat.le_of_ble_eq_true rfl) ?_
  intro _
  rw [entry_tab (by simp)]
  rw [show entryF [] [.sl false none 1 none (a0.map (rowI .i64))] = (updT deadT 0 (.sl false none 1 none (a0.map (rowI .i64)))) from by funext t; match t with | 0 => rfl | t + 1 => rfl]
  apply W_start
  simp only [Try.f35, Option.get!, R0_RZ]
  unfold view_ValidMembers at h
  obtain ⟨r1, hr1, h⟩ := Option.bind_eq_some_iff.1 h
  simp (config := { maxSteps := 4000000 }) only [go_sem, Nat.reduceLT, Nat.reduceEqDiff, Nat.reduceAdd, Nat.reduceBEq, Nat.reduceMul, Nat.reduceSub, reduceIte, Nat.reduceLeDiff, reduceCtorEq, Int.reduceNeg, Int.reduceToNat, Int.reduceEq, Int.reduceNe, Int.reduceLT, Int.reduceLE, hr1, FinW_ret]
  obtain rfl := Option.some.inj h
  exact ⟨_, rfl, (by exact ROk.refl _), (by repeat' (first | exact PureC.val _ | refine PureC.tup ?_ | refine PureC.agg ?_ | exact pure_nil | refine pure_cons ?_ ?_))⟩
def fs_view_ValidMembers (N : Nat) : FnS := { own := [], pure := true, fn := fun cs => match cs with
  | [c0] => ((decL 1 (dec1 (decI .i64))) c0).bind fun qc0 => (view_ValidMembers N qc0).map fun r => .val (.bool r)
  | _ => none }
theorem fs_view_ValidMembers_own (N : Nat) : (fs_view_ValidMembers N).own = [] := rfl
theorem fs_view_ValidMembers_pure (N : Nat) : (fs_view_ValidMembers N).pure = true := rfl
attribute [go_sem] fs_view_ValidMembers fs_view_ValidMembers_own fs_view_ValidMembers_pure
theorem fs_view_ValidMembers_ok (N : Nat) : FSOk Try.prog 35 (fs_view_ValidMembers N) := by
  refine ⟨fun cs r h => ?_, fun h => by cases h⟩
  simp only [fs_view_ValidMembers] at h
  split at h
  · simp only [Option.bind_eq_some_iff, Option.map_eq_some_iff] at h
    obtain ⟨q0, h0, r', hr, rfl⟩ := h
    exact ((w_view_ValidMembers N q0 r' hr).args (LeL.cons (decL_le (decI1_le .i64) h0) (LeL.nil)))
  · cases h

end Go.Proofs.Ytpbloecedgddlaa
end

section
set_option linter.unusedSimpArgs false
set_option linter.unusedVariables false
set_option maxRecDepth 100000
namespace Go.Proofs.Ytpbloecedgddlaa
open Go Go.Proofs Go.Abs
noncomputable def E_balance_Valid (N : Nat) : Env := { T := tiOf Try.prog, G := fun d f => if d = 27 ∧ f = 35 then some (fs_view_ValidMembers N) else none }
theorem E_balance_Valid_T (N : Nat) : (E_balance_Valid N).T = tiOf Try.prog := rfl
theorem E_balance_Valid_G0 (N : Nat) : (E_balance_Valid N).G 27 35 = some (fs_view_ValidMembers N) := rfl
theorem E_balance_Valid_ok (N : Nat) : GOk Try.prog { T := tiOf Try.prog, G := (E_balance_Valid N).G } := by
  intro d f fs hfs
  simp only [E_balance_Valid] at hfs
  by_cases hc : d = 27 ∧ f = 35
  · rw [if_pos hc] at hfs; obtain ⟨rfl, rfl⟩ := hc; obtain rfl := Option.some.inj hfs; exact fs_view_ValidMembers_ok N
  rw [if_neg hc] at hfs
  cases hfs
theorem fo_balance_Valid : FunOk Try.prog 14 Try.f14 Try.f14.body.get! := ⟨Try.func14, rfl, by decide, by kernel_rfl⟩
attribute [go_sem] E_balance_Valid_T E_balance_Valid_G0
set_option maxHeartbeats 4000000 in
theorem w_balance_Valid (N : Nat) (a0 : (List Load)) (r : Bool) (h : balance_Valid N a0 = some r) : Con Try.prog 14 [] true [.sl false none 2 none (a0.map Load.row)] (.val (.bool r)) := by
  refine fun_ok2 (E := E_balance_Valid N) (tiOf_ok Try.prog _) (E_balance_Valid_ok N) mix fo_balance_Valid (Nat.le_of_ble_eq_true rfl) ?_
  intro _
  rw [entry_tab (by simp)]
  rw [show entryF [] [.sl false none 2 none (a0.map Load.row)] = (updT deadT 0 (.sl false none 2 none (a0.map Load.row))) from by funext t; match t with | 0 => rfl | t + 1 => rfl]
  apply W_start
  simp only [Try.f14, Option.get!, R0_RZ]
  unfold balance_Valid at h
  simp (config := { maxSteps := 4000000 }) only [go_sem, Nat.reduceLT, Nat.reduceEqDiff, Nat.reduceAdd, Nat.reduceBEq, Nat.reduceMul, Nat.reduceSub, reduceIte, Nat.reduceLeDiff, reduceCtorEq, Int.reduceNeg, Int.reduceToNat, Int.reduceEq, Int.reduceNe, Int.reduceLT, Int.reduceLE]
  refine W_real fun hreal2 => ?_
  have hl1 := hreal2.lenT 0 (by decide) (by simp only [go_sem, Nat.reduceLT, Nat.reduceEqDiff, Nat.reduceAdd, Nat.reduceBEq, Nat.reduceMul, Nat.reduceSub, reduceIte, Nat.reduceLeDiff, reduceCtorEq, Int.reduceNeg, Int.reduceToNat, Int.reduceEq, Int.reduceNe, Int.reduceLT, Int.reduceLE, Bool.or_self, List.length_set, Int.natCast_zero, Int.cast_ofNat_Int]; rfl)
  rw [List.length_map] at hl1
  refine W_range (fun (v3 : Nat) (b : List Int) => ⟨tab 28 (updT (updT (updT (updT deadT 3 (.pal 24 [] 0 b.length none)) 6 (.sl false none 2 none (a0.map Load.row))) 7 (.val (.int .i64 ((a0.length : Nat) : Int)))) 8 (.val (.int .i64 ((v3 : Nat) : Int)))), (upd RZ 24 (.sl true none 1 none (b.map (rowI .i64))))⟩) [] h ?_ ?_
  · refine Weak.trans (weak_adopt 3 24 1 (by simp only [go_sem, Nat.reduceLT, Nat.reduceEqDiff, Nat.reduceAdd, Nat.reduceBEq, Nat.reduceMul, Nat.reduceSub, reduceIte, Nat.reduceLeDiff, reduceCtorEq, Int.reduceNeg, Int.reduceToNat, Int.reduceEq, Int.reduceNe, Int.reduceLT, Int.reduceLE, Bool.or_self, List.length_set, Int.natCast_zero, Int.cast_ofNat_Int]) (by simp only [go_sem, Nat.reduceLT, Nat.reduceEqDiff, Nat.reduceAdd, Nat.reduceBEq, Nat.reduceMul, Nat.reduceSub, reduceIte, Nat.reduceLeDiff, reduceCtorEq, Int.reduceNeg, Int.reduceToNat, Int.reduceEq, Int.reduceNe, Int.reduceLT, Int.reduceLE, Bool.or_self, List.length_set, Int.natCast_zero, Int.cast_ofNat_Int])) ?_
    refine weak_roots ?_ ?_
    · (repeat' (first | exact weakX_nil | refine weakX_cons ?_ ?_)) <;> (first | rfl | simp only [go_sem, Nat.reduceLT, Nat.reduceEqDiff, Nat.reduceAdd, Nat.reduceBEq, Nat.reduceMul, Nat.reduceSub, reduceIte, Nat.reduceLeDiff, reduceCtorEq, Int.reduceNeg, Int.reduceToNat, Int.reduceEq, Int.reduceNe, Int.reduceLT, Int.reduceLE, Bool.or_self, List.length_set, Int.natCast_zero, Int.cast_ofNat_Int])
    · (repeat' (first | exact weakR_nil | refine weakR_cons ?_ ?_ ?_)) <;> (first | rfl | simp only [go_sem, Nat.reduceLT, Nat.reduceEqDiff, Nat.reduceAdd, Nat.reduceBEq, Nat.reduceMul, Nat.reduceSub, reduceIte, Nat.reduceLeDiff, reduceCtorEq, Int.reduceNeg, Int.reduceToNat, Int.reduceEq, Int.reduceNe, Int.reduceLT, Int.reduceLE, Bool.or_self, List.length_set, Int.natCast_zero, Int.cast_ofNat_Int])
  · rintro v3 l2 hi3 h -
    rcases drop_cases a0 v3 hi3 with ⟨x6, hi3', hx4, hd6⟩ | ⟨hi3', _, hd6⟩
    · rw [hd6] at h
      simp only [balance_Valid_L1] at h
      have hw5 := wrap_succ hi3' hl1
      simp (config := { maxSteps := 4000000 }) only [go_sem, Nat.reduceLT, Nat.reduceEqDiff, Nat.reduceAdd, Nat.reduceBEq, Nat.reduceMul, Nat.reduceSub, reduceIte, Nat.reduceLeDiff, reduceCtorEq, Int.reduceNeg, Int.reduceToNat, Int.reduceEq, Int.reduceNe, Int.reduceLT, Int.reduceLE, hx4, hi3', hw5]
      refine W_cond_t rfl ?_
      simp (config := { maxSteps := 4000000 }) only [go_sem, Nat.reduceLT, Nat.reduceEqDiff, Nat.reduceAdd, Nat.reduceBEq, Nat.reduceMul, Nat.reduceSub, reduceIte, Nat.reduceLeDiff, reduceCtorEq, Int.reduceNeg, Int.reduceToNat, Int.reduceEq, Int.reduceNe, Int.reduceLT, Int.reduceLE, hx4, hi3', hw5]
      refine RX_guard_dec rfl (fun hc7 => ?_) (fun hc7 => ?_)
      · have hc7d := decide_eq_true hc7
        first | rw [if_pos hc7] at h | rw [if_pos hc7d] at h | simp only [hc7d, Bool.not_true, Bool.not_false, Bool.false_eq_true, if_true, if_false] at h
        unfold balance_Valid_J1 at h
        simp (config := { maxSteps := 4000000 }) only [go_sem, Nat.reduceLT, Nat.reduceEqDiff, Nat.reduceAdd, Nat.reduceBEq, Nat.reduceMul, Nat.reduceSub, reduceIte, Nat.reduceLeDiff, reduceCtorEq, Int.reduceNeg, Int.reduceToNat, Int.reduceEq, Int.reduceNe, Int.reduceLT, Int.reduceLE, hx4, hi3', hw5, hc7d]
        refine W_cond_t rfl ?_
        first | rw [if_pos (rfl : true = true)] at h | rw [if_neg Bool.false_ne_true] at h | skip
        simp (config := { maxSteps := 4000000 }) only [go_sem, Nat.reduceLT, Nat.reduceEqDiff, Nat.reduceAdd, Nat.reduceBEq, Nat.reduceMul, Nat.reduceSub, reduceIte, Nat.reduceLeDiff, reduceCtorEq, Int.reduceNeg, Int.reduceToNat, Int.reduceEq, Int.reduceNe, Int.reduceLT, Int.reduceLE, hx4, hi3', hw5, hc7d, FinW_ret]
        obtain rfl := Option.some.inj h
        exact ⟨_, rfl, (by exact ROk.refl _), (by repeat' (first | exact PureC.val _ | refine PureC.tup ?_ | refine PureC.agg ?_ | exact pure_nil | refine pure_cons ?_ ?_))⟩
      · have hc7d := decide_eq_false hc7
        first | rw [if_neg hc7] at h | rw [if_neg (ne_true_of_eq_false hc7d)] at h | simp only [hc7d, Bool.not_true, Bool.not_false, Bool.false_eq_true, if_true, if_false] at h
        unfold balance_Valid_J1 at h
        simp (config := { maxSteps := 4000000 }) only [go_sem, Nat.reduceLT, Nat.reduceEqDiff, Nat.reduceAdd, Nat.reduceBEq, Nat.reduceMul, Nat.reduceSub, reduceIte, Nat.reduceLeDiff, reduceCtorEq, Int.reduceNeg, Int.reduceToNat, Int.reduceEq, Int.reduceNe, Int.reduceLT, Int.reduceLE, hx4, hi3', hw5, hc7d]
        refine W_cond_dec rfl (fun hc8 => ?_) (fun hc8 => ?_)
        · have hc8d := decide_eq_true hc8
          first | rw [if_pos hc8] at h | rw [if_pos hc8d] at h | simp only [hc8d, Bool.not_true, Bool.not_false, Bool.false_eq_true, if_true, if_false] at h
          simp (config := { maxSteps := 4000000 }) only [go_sem, Nat.reduceLT, Nat.reduceEqDiff, Nat.reduceAdd, Nat.reduceBEq, Nat.reduceMul, Nat.reduceSub, reduceIte, Nat.reduceLeDiff, reduceCtorEq, Int.reduceNeg, Int.reduceToNat, Int.reduceEq, Int.reduceNe, Int.reduceLT, Int.reduceLE, hx4, hi3', hw5, hc7d, hc8d, FinW_ret]
          obtain rfl := Option.some.inj h
          exact ⟨_, rfl, (by exact ROk.refl _), (by repeat' (first | exact PureC.val _ | refine PureC.tup ?_ | refine PureC.agg ?_ | exact pure_nil | refine pure_cons ?_ ?_))⟩
        · have hc8d := decide_eq_false hc8
          first | rw [if_neg hc8] at h | rw [if_neg (ne_true_of_eq_false hc8d)] at h | simp only [hc8d, Bool.not_true, Bool.not_false, Bool.false_eq_true, if_true, if_false] at h
          unfold balance_Valid_J2 at h
          obtain ⟨ha9, h⟩ := apx_some h
          simp only [List.length_cons, List.length_nil, Nat.zero_add, Nat.add_zero, Nat.reduceAdd] at ha9
          simp (config := { maxSteps := 4000000 }) only [go_sem, Nat.reduceLT, Nat.reduceEqDiff, Nat.reduceAdd, Nat.reduceBEq, Nat.reduceMul, Nat.reduceSub, reduceIte, Nat.reduceLeDiff, reduceCtorEq, Int.reduceNeg, Int.reduceToNat, Int.reduceEq, Int.reduceNe, Int.reduceLT, Int.reduceLE, hx4, hi3', hw5, hc7d, hc8d, ha9]
          first | refine ⟨(l2 ++ [x6.Member]), ?_, h⟩ | refine ⟨hi3', (l2 ++ [x6.Member]), ?_, h⟩
          refine weak_roots ?_ ?_
          · (repeat' (first | exact weakX_nil | refine weakX_cons ?_ ?_)) <;> (first | rfl | simp only [go_sem, Nat.reduceLT, Nat.reduceEqDiff, Nat.reduceAdd, Nat.reduceBEq, Nat.reduceMul, Nat.reduceSub, reduceIte, Nat.reduceLeDiff, reduceCtorEq, Int.reduceNeg, Int.reduceToNat, Int.reduceEq, Int.reduceNe, Int.reduceLT, Int.reduceLE, Bool.or_self, List.length_set, Int.natCast_zero, Int.cast_ofNat_Int, hx4, hi3', hw5, hc7d, hc8d, ha9])
          · (repeat' (first | exact weakR_nil | refine weakR_cons ?_ ?_ ?_)) <;> (first | rfl | simp only [go_sem, Nat.reduceLT, Nat.reduceEqDiff, Nat.reduceAdd, Nat.reduceBEq, Nat.reduceMul, Nat.reduceSub, reduceIte, Nat.reduceLeDiff, reduceCtorEq, Int.reduceNeg, Int.reduceToNat, Int.reduceEq, Int.reduceNe, Int.reduceLT, Int.reduceLE, Bool.or_self, List.length_set, Int.natCast_zero, Int.cast_ofNat_Int, hx4, hi3', hw5, hc7d, hc8d, ha9])
    · rw [hd6] at h
      simp only [balance_Valid_L1] at h
      simp (config := { maxSteps := 4000000 }) only [go_sem, Nat.reduceLT, Nat.reduceEqDiff, Nat.reduceAdd, Nat.reduceBEq, Nat.reduceMul, Nat.reduceSub, reduceIte, Nat.reduceLeDiff, reduceCtorEq, Int.reduceNeg, Int.reduceToNat, Int.reduceEq, Int.reduceNe, Int.reduceLT, Int.reduceLE, hi3']
      refine W_cond_f rfl ?_
      unfold balance_Valid_J3 at h
      obtain ⟨r1, hr10, h⟩ := Option.bind_eq_some_iff.1 h
      simp (config := { maxSteps := 4000000 }) only [go_sem, Nat.reduceLT, Nat.reduceEqDiff, Nat.reduceAdd, Nat.reduceBEq, Nat.reduceMul, Nat.reduceSub, reduceIte, Nat.reduceLeDiff, reduceCtorEq, Int.reduceNeg, Int.reduceToNat, Int.reduceEq, Int.reduceNe, Int.reduceLT, Int.reduceLE, hi3', hr10, FinW_ret]
      obtain rfl := Option.some.inj h
      exact ⟨_, rfl, (by exact ROk.refl _), (by repeat' (first | exact PureC.val _ | refine PureC.tup ?_ | refine PureC.agg ?_ | exact pure_nil | refine pure_cons ?_ ?_))⟩
def fs_balance_Valid (N : Nat) : FnS := { own := [], pure := true, fn := fun cs => match cs with
  | [c0] => ((decL 2 Load.dec) c0).bind fun qc0 => (balance_Valid N qc0).map fun r => .val (.bool r)
  | _ => none }
theorem fs_balance_Valid_own (N : Nat) : (fs_balance_Valid N).own = [] := rfl
theorem fs_balance_Valid_pure (N : Nat) : (fs_balance_Valid N).pure = true := rfl
attribute [go_sem] fs_balance_Valid fs_balance_Valid_own fs_balance_Valid_pure
theorem fs_balance_Valid_ok (N : Nat) : FSOk Try.prog 14 (fs_balance_Valid N) := by
  refine ⟨fun cs r h => ?_, fun h => by cases h⟩
  simp only [fs_balance_Valid] at h
  split at h
  · simp only [Option.bind_eq_some_iff, Option.map_eq_some_iff] at h
    obtain ⟨q0, h0, r', hr, rfl⟩ := h
    exact ((w_balance_Valid N q0 r' hr).args (LeL.cons (decL_le Load.dec_le h0) (LeL.nil)))
  · cases h

end Go.Proofs.Ytpbloecedgddlaa
end

section
set_option linter.unusedSimpArgs false
set_option linter.unusedVariables false
set_option maxRecDepth 100000
namespace Go.Proofs.Ytpbloecedgddlaa
open Go Go.Proofs Go.Abs
noncomputable def E_slices_Clone_Load (N : Nat) : Env := { T := tiOf Try.prog, G := fun d f => none }
theorem E_slices_Clone_Load_T (N : Nat) : (E_slices_Clone_Load N).T = tiOf Try.prog := rfl
theorem E_slices_Clone_Load_ok (N : Nat) : GOk Try.prog { T := tiOf Try.prog, G := (E_slices_Clone_Load N).G } := by
  intro d f fs hfs
  cases hfs
theorem fo_slices_Clone_Load : FunOk Try.prog 31 Try.f31 Try.f31.body.get! := ⟨Try.func31, rfl, by decide, by kernel_rfl⟩
attribute [go_sem] E_slices_Clone_Load_T
set_option maxHeartbeats 4000000 in
theorem w_slices_Clone_Load_nn (N : Nat) (a0 : (List Load)) (r : (List Load)) (h : slices_Clone_Load N a0 = some r) : Con Try.prog 31 [] true [.sl false (some false) 2 none (a0.map Load.row)] (.sl true none 2 none (r.map Load.row)) := by
  refine fun_ok2 (E := E_slices_Clone_Load N) (tiOf_ok Try.prog _) (E_slices_Clone_Load_ok N) mix fo_slices_Clone_Load (Nat.le_of_ble_eq_true rfl) ?_
  intro _
  rw [entry_tab (by simp)]
  rw [show entryF [] [.sl false (some false) 2 none (a0.map Load.row)] = (updT deadT 0 (.sl false (some false) 2 none (a0.map Load.row))) from by funext t; match t with | 0 => rfl | t + 1 => rfl]
  apply W_start
  simp only [Try.f31, Option.get!, R0_RZ]
  unfold slices_Clone_Load at h
  simp (config := { maxSteps := 4000000 }) only [go_sem, Nat.reduceLT, Nat.reduceEqDiff, Nat.reduceAdd, Nat.reduceBEq, Nat.reduceMul, Nat.reduceSub, reduceIte, Nat.reduceLeDiff, reduceCtorEq, Int.reduceNeg, Int.reduceToNat, Int.reduceEq, Int.reduceNe, Int.reduceLT, Int.reduceLE]
  refine W_cond_f rfl ?_
  first | rw [if_pos (rfl : true = true)] at h | rw [if_neg Bool.false_ne_true] at h | skip
  first | obtain ⟨ha1, h⟩ := apn_some h | (obtain ⟨ha1, h⟩ := apx_some h; rw [List.nil_append] at h)
  simp only [List.length_cons, List.length_nil, Nat.zero_add, Nat.add_zero, Nat.reduceAdd] at ha1
  simp (config := { maxSteps := 4000000 }) only [go_sem, Nat.reduceLT, Nat.reduceEqDiff, Nat.reduceAdd, Nat.reduceBEq, Nat.reduceMul, Nat.reduceSub, reduceIte, Nat.reduceLeDiff, reduceCtorEq, Int.reduceNeg, Int.reduceToNat, Int.reduceEq, Int.reduceNe, Int.reduceLT, Int.reduceLE, ha1, FinW_ret]
  obtain rfl := Option.some.inj h
  exact ⟨_, rfl, (by repeat' (first | exact ROk.refl _ | exact ROk.nil _ | ((refine ROk.of _ ?_ ?_); (focus ((repeat' (first | exact Le.refl _ | exact LeL.nil | exact Le.nils | exact LeLL.refl _ | refine LeLL.mapAppend ?_ ?_ | refine LeLL.cons ?_ ?_ | refine Le.sl ?_ | refine Le.tup ?_ | refine Le.agg ?_ | refine LeL.cons ?_ ?_)); done)); (focus ((repeat' (first | exact NoOwn.val _ | exact NoOwn.sl _ _ _ _ | refine NoOwn.tup ?_ | refine NoOwn.agg ?_ | exact noOwn_nil | refine noOwn_cons ?_ ?_)); done))) | ((refine ROk.own ?_ ?_); (focus ((repeat' (first | exact Le.refl _ | exact LeL.nil | exact Le.nils | exact LeLL.refl _ | refine LeLL.mapAppend ?_ ?_ | refine LeLL.cons ?_ ?_ | refine Le.sl ?_ | refine Le.tup ?_ | refine Le.agg ?_ | refine LeL.cons ?_ ?_)); done)); (focus ((first | exact RowOk.noOwn Load.row_ok _); done))) | refine ROk.agg rfl ?_ | refine ROk.tup rfl ?_ | exact rok_nil | refine rok_cons ?_ ?_)), (by (repeat' (first | exact PureC.val _ | refine PureC.tup ?_ | refine PureC.agg ?_ | exact pure_nil | refine pure_cons ?_ ?_ | refine PureC.sl ?_ | exact pure_rows Load.row_pure _ |  exact pure_rows_nil | refine pure_rows_append ?_ ?_ | refine pure_rows_cons ?_ ?_)))⟩
set_option maxHeartbeats 4000000 in
theorem w_slices_Clone_Load_nil (N : Nat)  (r : (List Load)) (h : slices_Clone_Load N [] = some r) : Con Try.prog 31 [] true [.val (.slice none 0 0)] (.sl true none 2 none (r.map Load.row)) := by
  refine fun_ok2 (E := E_slices_Clone_Load N) (tiOf_ok Try.prog _) (E_slices_Clone_Load_ok N) mix fo_slices_Clone_Load (Nat.le_of_ble_eq_true rfl) ?_
  intro _
  rw [entry_tab (by simp)]
  rw [show entryF [] [.val (.slice none 0 0)] = (updT deadT 0 (.val (.slice none 0 0))) from by funext t; match t with | 0 => rfl | t + 1 => rfl]
  apply W_start
  simp only [Try.f31, Option.get!, R0_RZ]
  unfold slices_Clone_Load at h
  simp (config := { maxSteps := 4000000 }) only [go_sem, Nat.reduceLT, Nat.reduceEqDiff, Nat.reduceAdd, Nat.reduceBEq, Nat.reduceMul, Nat.reduceSub, reduceIte, Nat.reduceLeDiff, reduceCtorEq, Int.reduceNeg, Int.reduceToNat, Int.reduceEq, Int.reduceNe, Int.reduceLT, Int.reduceLE]
  refine W_cond_t rfl ?_
  first | rw [if_pos (rfl : true = true)] at h | rw [if_neg Bool.false_ne_true] at h | skip
  simp (config := { maxSteps := 4000000 }) only [go_sem, Nat.reduceLT, Nat.reduceEqDiff, Nat.reduceAdd, Nat.reduceBEq, Nat.reduceMul, Nat.reduceSub, reduceIte, Nat.reduceLeDiff, reduceCtorEq, Int.reduceNeg, Int.reduceToNat, Int.reduceEq, Int.reduceNe, Int.reduceLT, Int.reduceLE, FinW_ret]
  obtain rfl : r = [] := by simpa [apn] using h.symm
  exact ⟨_, rfl, (by repeat' (first | exact ROk.refl _ | exact ROk.nil _ | ((refine ROk.of _ ?_ ?_); (focus ((repeat' (first | exact Le.refl _ | exact LeL.nil | exact Le.nils | exact LeLL.refl _ | refine LeLL.mapAppend ?_ ?_ | refine LeLL.cons ?_ ?_ | refine Le.sl ?_ | refine Le.tup ?_ | refine Le.agg ?_ | refine LeL.cons ?_ ?_)); done)); (focus ((repeat' (first | exact NoOwn.val _ | exact NoOwn.sl _ _ _ _ | refine NoOwn.tup ?_ | refine NoOwn.agg ?_ | exact noOwn_nil | refine noOwn_cons ?_ ?_)); done))) | ((refine ROk.own ?_ ?_); (focus ((repeat' (first | exact Le.refl _ | exact LeL.nil | exact Le.nils | exact LeLL.refl _ | refine LeLL.mapAppend ?_ ?_ | refine LeLL.cons ?_ ?_ | refine Le.sl ?_ | refine Le.tup ?_ | refine Le.agg ?_ | refine LeL.cons ?_ ?_)); done)); (focus ((first | exact RowOk.noOwn Load.row_ok _); done))) | refine ROk.agg rfl ?_ | refine ROk.tup rfl ?_ | exact rok_nil | refine rok_cons ?_ ?_)), (by (repeat' (first | exact PureC.val _ | refine PureC.tup ?_ | refine PureC.agg ?_ | exact pure_nil | refine pure_cons ?_ ?_ | refine PureC.sl ?_ | exact pure_rows Load.row_pure _ |  exact pure_rows_nil | refine pure_rows_append ?_ ?_ | refine pure_rows_cons ?_ ?_)))⟩
theorem w_slices_Clone_Load (N : Nat) (a0 : (List Load)) (r : (List Load)) (h : slices_Clone_Load N a0 = some r) : Con Try.prog 31 [] true [.sl false none 2 none (a0.map Load.row)] (.sl true none 2 none (r.map Load.row)) :=
  Con_nl (fun e => by obtain rfl : a0 = [] := List.map_eq_nil_iff.1 e; exact w_slices_Clone_Load_nil N r h) (w_slices_Clone_Load_nn N a0 r h)
def fs_slices_Clone_Load (N : Nat) : FnS := { own := [], pure := true, fn := fun cs => match cs with
  | [c0] => ((decL 2 Load.dec) c0).bind fun qc0 => (slices_Clone_Load N qc0).map fun r => .sl false none 2 none (r.map Load.row)
  | _ => none }
theorem fs_slices_Clone_Load_own (N : Nat) : (fs_slices_Clone_Load N).own = [] := rfl
theorem fs_slices_Clone_Load_pure (N : Nat) : (fs_slices_Clone_Load N).pure = true := rfl
attribute [go_sem] fs_slices_Clone_Load fs_slices_Clone_Load_own fs_slices_Clone_Load_pure
theorem fs_slices_Clone_Load_ok (N : Nat) : FSOk Try.prog 31 (fs_slices_Clone_Load N) := by
  refine ⟨fun cs r h => ?_, fun h => by cases h⟩
  simp only [fs_slices_Clone_Load] at h
  split at h
  · simp only [Option.bind_eq_some_iff, Option.map_eq_some_iff] at h
    obtain ⟨q0, h0, r', hr, rfl⟩ := h
    exact (((w_slices_Clone_Load N q0 r' hr).args (LeL.cons (decL_le Load.dec_le h0) (LeL.nil))).res (by repeat' (first | exact ROk.refl _ | exact ROk.nil _ | ((refine ROk.of _ ?_ ?_); (focus ((repeat' (first | exact Le.refl _ | exact LeL.nil | exact Le.nils | exact LeLL.refl _ | refine LeLL.mapAppend ?_ ?_ | refine LeLL.cons ?_ ?_ | refine Le.sl ?_ | refine Le.tup ?_ | refine Le.agg ?_ | refine LeL.cons ?_ ?_)); done)); (focus ((repeat' (first | exact NoOwn.val _ | exact NoOwn.sl _ _ _ _ | refine NoOwn.tup ?_ | refine NoOwn.agg ?_ | exact noOwn_nil | refine noOwn_cons ?_ ?_)); done))) | ((refine ROk.own ?_ ?_); (focus ((repeat' (first | exact Le.refl _ | exact LeL.nil | exact Le.nils | exact LeLL.refl _ | refine LeLL.mapAppend ?_ ?_ | refine LeLL.cons ?_ ?_ | refine Le.sl ?_ | refine Le.tup ?_ | refine Le.agg ?_ | refine LeL.cons ?_ ?_)); done)); (focus ((first | exact RowOk.noOwn Load.row_ok _); done))) | refine ROk.agg rfl ?_ | refine ROk.tup rfl ?_ | exact rok_nil | refine rok_cons ?_ ?_)))
  · cases h

def fso_slices_Clone_Load (N : Nat) : FnS := { own := [], pure := true, fn := fun cs => match cs with
  | [c0] => ((decL 2 Load.dec) c0).bind fun qc0 => (slices_Clone_Load N qc0).map fun r => .sl true none 2 none (r.map Load.row)
  | _ => none }
theorem fso_slices_Clone_Load_own (N : Nat) : (fso_slices_Clone_Load N).own = [] := rfl
theorem fso_slices_Clone_Load_pure (N : Nat) : (fso_slices_Clone_Load N).pure = true := rfl
attribute [go_sem] fso_slices_Clone_Load fso_slices_Clone_Load_own fso_slices_Clone_Load_pure
theorem fso_slices_Clone_Load_ok (N : Nat) : FSOk Try.prog 31 (fso_slices_Clone_Load N) := by
  refine ⟨fun cs r h => ?_, fun h => by cases h⟩
  simp only [fso_slices_Clone_Load] at h
  split at h
  · simp only [Option.bind_eq_some_iff, Option.map_eq_some_iff] at h
    obtain ⟨q0, h0, r', hr, rfl⟩ := h
    exact ((w_slices_Clone_Load N q0 r' hr).args (LeL.cons (decL_le Load.dec_le h0) (LeL.nil)))
  · cases h

end Go.Proofs.Ytpbloecedgddlaa
end

section
set_option linter.unusedSimpArgs false
set_option linter.unusedVariables false
set_option maxRecDepth 100000
namespace Go.Proofs.Ytpbloecedgddlaa
open Go Go.Proofs Go.Abs
noncomputable def E_balance_extremes (N : Nat) : Env := { T := tiOf Try.prog, G := fun d f => none }
theorem E_balance_extremes_T (N : Nat) : (E_balance_extremes N).T = tiOf Try.prog := rfl
theorem E_balance_extremes_ok (N : Nat) : GOk Try.prog { T := tiOf Try.prog, G := (E_balance_extremes N).G } := by
  intro d f fs hfs
  cases hfs
theorem fo_balance_extremes : FunOk Try.prog 30 Try.f30 Try.f30.body.get! := ⟨Try.func30, rfl, by decide, by kernel_rfl⟩
attribute [go_sem] E_balance_extremes_T
set_option maxHeartbeats 4000000 in
theorem w_balance_extremes (N : Nat) (a0 : (List Load)) (r : Int × Int) (h : balance_extremes N a0 = some r) : Con Try.prog 30 [] true [.sl false none 2 none (a0.map Load.row)] (.tup [.val (.int .i64 r.1), .val (.int .i64 r.2)]) := by
  refine fun_ok2 (E := E_balance_extremes N) (tiOf_ok Try.prog _) (E_balance_extremes_ok N) mix fo_balance_extremes (Nat.le_of_ble_eq_true rfl) ?_
  intro _
  rw [entry_tab (by simp)]
  rw [show entryF [] [.sl false none 2 none (a0.map Load.row)] = (updT deadT 0 (.sl false none 2 none (a0.map Load.row))) from by funext t; match t with | 0 => rfl | t + 1 => rfl]
  apply W_start
  simp only [Try.f30, Option.get!, R0_RZ]
  unfold balance_extremes at h
  simp (config := { maxSteps := 4000000 }) only [go_sem, Nat.reduceLT, Nat.reduceEqDiff, Nat.reduceAdd, Nat.reduceBEq, Nat.reduceMul, Nat.reduceSub, reduceIte, Nat.reduceLeDiff, reduceCtorEq, Int.reduceNeg, Int.reduceToNat, Int.reduceEq, Int.reduceNe, Int.reduceLT, Int.reduceLE]
  repeat' ((with_reducible refine and_bar ?_ ?_); kernel_rfl)
  refine W_real fun hreal2 => ?_
  have hl1 := hreal2.lenT 0 (by decide) (by simp only [go_sem, Nat.reduceLT, Nat.reduceEqDiff, Nat.reduceAdd, Nat.reduceBEq, Nat.reduceMul, Nat.reduceSub, reduceIte, Nat.reduceLeDiff, reduceCtorEq, Int.reduceNeg, Int.reduceToNat, Int.reduceEq, Int.reduceNe, Int.reduceLT, Int.reduceLE, Bool.or_self, List.length_set, Int.natCast_zero, Int.cast_ofNat_Int]; rfl)
  rw [List.length_map] at hl1
  refine W_range (fun (v4 : Nat) (b : Int × Int) => ⟨tab 34 (updT (updT (updT (updT (updT (updT deadT 0 (.sl false none 2 none (a0.map Load.row))) 2 (.val (.int .i64 b.1))) 3 (.val (.int .i64 b.2))) 6 (.sl false none 2 none (a0.map Load.row))) 7 (.val (.int .i64 ((a0.length : Nat) : Int)))) 8 (.val (.int .i64 ((v4 : Nat) : Int)))), RZ⟩) (0, 0) h ?_ ?_
  · refine weak_roots ?_ ?_
    · (repeat' (first | exact weakX_nil | refine weakX_cons ?_ ?_)) <;> (first | rfl | simp only [go_sem, Nat.reduceLT, Nat.reduceEqDiff, Nat.reduceAdd, Nat.reduceBEq, Nat.reduceMul, Nat.reduceSub, reduceIte, Nat.reduceLeDiff, reduceCtorEq, Int.reduceNeg, Int.reduceToNat, Int.reduceEq, Int.reduceNe, Int.reduceLT, Int.reduceLE, Bool.or_self, List.length_set, Int.natCast_zero, Int.cast_ofNat_Int])
    · (repeat' (first | exact weakR_nil | refine weakR_cons ?_ ?_ ?_)) <;> (first | rfl | simp only [go_sem, Nat.reduceLT, Nat.reduceEqDiff, Nat.reduceAdd, Nat.reduceBEq, Nat.reduceMul, Nat.reduceSub, reduceIte, Nat.reduceLeDiff, reduceCtorEq, Int.reduceNeg, Int.reduceToNat, Int.reduceEq, Int.reduceNe, Int.reduceLT, Int.reduceLE, Bool.or_self, List.length_set, Int.natCast_zero, Int.cast_ofNat_Int])
  · rintro v4 ⟨v2, v3⟩ hi3 h -
    rcases drop_cases a0 v4 hi3 with ⟨x7, hi3', hx4, hd6⟩ | ⟨hi3', _, hd6⟩
    · rw [hd6] at h
      simp only [balance_extremes_L1] at h
      have hw5 := wrap_succ hi3' hl1
      simp (config := { maxSteps := 4000000 }) only [go_sem, Nat.reduceLT, Nat.reduceEqDiff, Nat.reduceAdd, Nat.reduceBEq, Nat.reduceMul, Nat.reduceSub, reduceIte, Nat.reduceLeDiff, reduceCtorEq, Int.reduceNeg, Int.reduceToNat, Int.reduceEq, Int.reduceNe, Int.reduceLT, Int.reduceLE, hx4, hi3', hw5]
      repeat' ((with_reducible refine and_bar ?_ ?_); kernel_rfl)
      refine W_cond_t rfl ?_
      obtain ⟨x1, hb7, hx8, h⟩ := gx_some h
      simp (config := { maxSteps := 4000000 }) only [go_sem, Nat.reduceLT, Nat.reduceEqDiff, Nat.reduceAdd, Nat.reduceBEq, Nat.reduceMul, Nat.reduceSub, reduceIte, Nat.reduceLeDiff, reduceCtorEq, Int.reduceNeg, Int.reduceToNat, Int.reduceEq, Int.reduceNe, Int.reduceLT, Int.reduceLE, hx4, hi3', hw5, hb7, hx8]
      repeat' ((with_reducible refine and_bar ?_ ?_); kernel_rfl)
      refine W_cond_dec rfl (fun hc9 => ?_) (fun hc9 => ?_)
      · have hc9d := decide_eq_true hc9
        first | rw [if_pos hc9] at h | rw [if_pos hc9d] at h | simp only [hc9d, Bool.not_true, Bool.not_false, Bool.false_eq_true, if_true, if_false] at h
        unfold balance_extremes_J1 at h
        obtain ⟨x2, hb10, hx11, h⟩ := gx_some h
        simp (config := { maxSteps := 4000000 }) only [go_sem, Nat.reduceLT, Nat.reduceEqDiff, Nat.reduceAdd, Nat.reduceBEq, Nat.reduceMul, Nat.reduceSub, reduceIte, Nat.reduceLeDiff, reduceCtorEq, Int.reduceNeg, Int.reduceToNat, Int.reduceEq, Int.reduceNe, Int.reduceLT, Int.reduceLE, hx4, hi3', hw5, hb7, hx8, hc9d, hb10, hx11]
        repeat' ((with_reducible refine and_bar ?_ ?_); kernel_rfl)
        refine W_cond_dec rfl (fun hc12 => ?_) (fun hc12 => ?_)
        · have hc12d := decide_eq_true hc12
          first | rw [if_pos hc12] at h | rw [if_pos hc12d] at h | simp only [hc12d, Bool.not_true, Bool.not_false, Bool.false_eq_true, if_true, if_false] at h
          simp (config := { maxSteps := 4000000 }) only [go_sem, Nat.reduceLT, Nat.reduceEqDiff, Nat.reduceAdd, Nat.reduceBEq, Nat.reduceMul, Nat.reduceSub, reduceIte, Nat.reduceLeDiff, reduceCtorEq, Int.reduceNeg, Int.reduceToNat, Int.reduceEq, Int.reduceNe, Int.reduceLT, Int.reduceLE, hx4, hi3', hw5, hb7, hx8, hc9d, hb10, hx11, hc12d]
          repeat' ((with_reducible refine and_bar ?_ ?_); kernel_rfl)
          first | refine ⟨(((v4 : Nat) : Int), ((v4 : Nat) : Int)), ?_, h⟩ | refine ⟨hi3', (((v4 : Nat) : Int), ((v4 : Nat) : Int)), ?_, h⟩
          refine weak_roots ?_ ?_
          · (repeat' (first | exact weakX_nil | refine weakX_cons ?_ ?_)) <;> (first | rfl | simp only [go_sem, Nat.reduceLT, Nat.reduceEqDiff, Nat.reduceAdd, Nat.reduceBEq, Nat.reduceMul, Nat.reduceSub, reduceIte, Nat.reduceLeDiff, reduceCtorEq, Int.reduceNeg, Int.reduceToNat, Int.reduceEq, Int.reduceNe, Int.reduceLT, Int.reduceLE, Bool.or_self, List.length_set, Int.natCast_zero, Int.cast_ofNat_Int, hx4, hi3', hw5, hb7, hx8, hc9d, hb10, hx11, hc12d])
          · (repeat' (first | exact weakR_nil | refine weakR_cons ?_ ?_ ?_)) <;> (first | rfl | simp only [go_sem, Nat.reduceLT, Nat.reduceEqDiff, Nat.reduceAdd, Nat.reduceBEq, Nat.reduceMul, Nat.reduceSub, reduceIte, Nat.reduceLeDiff, reduceCtorEq, Int.reduceNeg, Int.reduceToNat, Int.reduceEq, Int.reduceNe, Int.reduceLT, Int.reduceLE, Bool.or_self, List.length_set, Int.natCast_zero, Int.cast_ofNat_Int, hx4, hi3', hw5, hb7, hx8, hc9d, hb10, hx11, hc12d])
        · have hc12d := decide_eq_false hc12
          first | rw [if_neg hc12] at h | rw [if_neg (ne_true_of_eq_false hc12d)] at h | simp only [hc12d, Bool.not_true, Bool.not_false, Bool.false_eq_true, if_true, if_false] at h
          simp (config := { maxSteps := 4000000 }) only [go_sem, Nat.reduceLT, Nat.reduceEqDiff, Nat.reduceAdd, Nat.reduceBEq, Nat.reduceMul, Nat.reduceSub, reduceIte, Nat.reduceLeDiff, reduceCtorEq, Int.reduceNeg, Int.reduceToNat, Int.reduceEq, Int.reduceNe, Int.reduceLT, Int.reduceLE, hx4, hi3', hw5, hb7, hx8, hc9d, hb10, hx11, hc12d]
          repeat' ((with_reducible refine and_bar ?_ ?_); kernel_rfl)
          first | refine ⟨(((v4 : Nat) : Int), v3), ?_, h⟩ | refine ⟨hi3', (((v4 : Nat) : Int), v3), ?_, h⟩
          refine weak_roots ?_ ?_
          · (repeat' (first | exact weakX_nil | refine weakX_cons ?_ ?_)) <;> (first | rfl | simp only [go_sem, Nat.reduceLT, Nat.reduceEqDiff, Nat.reduceAdd, Nat.reduceBEq, Nat.reduceMul, Nat.reduceSub, reduceIte, Nat.reduceLeDiff, reduceCtorEq, Int.reduceNeg, Int.reduceToNat, Int.reduceEq, Int.reduceNe, Int.reduceLT, Int.reduceLE, Bool.or_self, List.length_set, Int.natCast_zero, Int.cast_ofNat_Int, hx4, hi3', hw5, hb7, hx8, hc9d, hb10, hx11, hc12d])
          · (repeat' (first | exact weakR_nil | refine weakR_cons ?_ ?_ ?_)) <;> (first | rfl | simp only [go_sem, Nat.reduceLT, Nat.reduceEqDiff, Nat.reduceAdd, Nat.reduceBEq, Nat.reduceMul, Nat.reduceSub, reduceIte, Nat.reduceLeDiff, reduceCtorEq, Int.reduceNeg, Int.reduceToNat, Int.reduceEq, Int.reduceNe, Int.reduceLT, Int.reduceLE, Bool.or_self, List.length_set, Int.natCast_zero, Int.cast_ofNat_Int, hx4, hi3', hw5, hb7, hx8, hc9d, hb10, hx11, hc12d])
      · have hc9d := decide_eq_false hc9
        first | rw [if_neg hc9] at h | rw [if_neg (ne_true_of_eq_false hc9d)] at h | simp only [hc9d, Bool.not_true, Bool.not_false, Bool.false_eq_true, if_true, if_false] at h
        unfold balance_extremes_J1 at h
        obtain ⟨x3, hb13, hx14, h⟩ := gx_some h
        simp (config := { maxSteps := 4000000 }) only [go_sem, Nat.reduceLT, Nat.reduceEqDiff, Nat.reduceAdd, Nat.reduceBEq, Nat.reduceMul, Nat.reduceSub, reduceIte, Nat.reduceLeDiff, reduceCtorEq, Int.reduceNeg, Int.reduceToNat, Int.reduceEq, Int.reduceNe, Int.reduceLT, Int.reduceLE, hx4, hi3', hw5, hb7, hx8, hc9d, hb13, hx14]
        repeat' ((with_reducible refine and_bar ?_ ?_); kernel_rfl)
        refine W_cond_dec rfl (fun hc15 => ?_) (fun hc15 => ?_)
        · have hc15d := decide_eq_true hc15
          first | rw [if_pos hc15] at h | rw [if_pos hc15d] at h | simp only [hc15d, Bool.not_true, Bool.not_false, Bool.false_eq_true, if_true, if_false] at h
          simp (config := { maxSteps := 4000000 }) only [go_sem, Nat.reduceLT, Nat.reduceEqDiff, Nat.reduceAdd, Nat.reduceBEq, Nat.reduceMul, Nat.reduceSub, reduceIte, Nat.reduceLeDiff, reduceCtorEq, Int.reduceNeg, Int.reduceToNat, Int.reduceEq, Int.reduceNe, Int.reduceLT, Int.reduceLE, hx4, hi3', hw5, hb7, hx8, hc9d, hb13, hx14, hc15d]
          repeat' ((with_reducible refine and_bar ?_ ?_); kernel_rfl)
          first | refine ⟨(v2, ((v4 : Nat) : Int)), ?_, h⟩ | refine ⟨hi3', (v2, ((v4 : Nat) : Int)), ?_, h⟩
          refine weak_roots ?_ ?_
          · (repeat' (first | exact weakX_nil | refine weakX_cons ?_ ?_)) <;> (first | rfl | simp only [go_sem, Nat.reduceLT, Nat.reduceEqDiff, Nat.reduceAdd, Nat.reduceBEq, Nat.reduceMul, Nat.reduceSub, reduceIte, Nat.reduceLeDiff, reduceCtorEq, Int.reduceNeg, Int.reduceToNat, Int.reduceEq, Int.reduceNe, Int.reduceLT, Int.reduceLE, Bool.or_self, List.length_set, Int.natCast_zero, Int.cast_ofNat_Int, hx4, hi3', hw5, hb7, hx8, hc9d, hb13, hx14, hc15d])
          · (repeat' (first | exact weakR_nil | refine weakR_cons ?_ ?_ ?_)) <;> (first | rfl | simp only [go_sem, Nat.reduceLT, Nat.reduceEqDiff, Nat.reduceAdd, Nat.reduceBEq, Nat.reduceMul, Nat.reduceSub, reduceIte, Nat.reduceLeDiff, reduceCtorEq, Int.reduceNeg, Int.reduceToNat, Int.reduceEq, Int.reduceNe, Int.reduceLT, Int.reduceLE, Bool.or_self, List.length_set, Int.natCast_zero, Int.cast_ofNat_Int, hx4, hi3', hw5, hb7, hx8, hc9d, hb13, hx14, hc15d])
        · have hc15d := decide_eq_false hc15
          first | rw [if_neg hc15] at h | rw [if_neg (ne_true_of_eq_false hc15d)] at h | simp only [hc15d, Bool.not_true, Bool.not_false, Bool.false_eq_true, if_true, if_false] at h
          simp (config := { maxSteps := 4000000 }) only [go_sem, Nat.reduceLT, Nat.reduceEqDiff, Nat.reduceAdd, Nat.reduceBEq, Nat.reduceMul, Nat.reduceSub, reduceIte, Nat.reduceLeDiff, reduceCtorEq, Int.reduceNeg, Int.reduceToNat, Int.reduceEq, Int.reduceNe, Int.reduceLT, Int.reduceLE, hx4, hi3', hw5, hb7, hx8, hc9d, hb13, hx14, hc15d]
          repeat' ((with_reducible refine and_bar ?_ ?_); kernel_rfl)
          first | refine ⟨(v2, v3), ?_, h⟩ | refine ⟨hi3', (v2, v3), ?_, h⟩
          refine weak_roots ?_ ?_
          · (repeat' (first | exact weakX_nil | refine weakX_cons ?_ ?_)) <;> (first | rfl | simp only [go_sem, Nat.reduceLT, Nat.reduceEqDiff, Nat.reduceAdd, Nat.reduceBEq, Nat.reduceMul, Nat.reduceSub, reduceIte, Nat.reduceLeDiff, reduceCtorEq, Int.reduceNeg, Int.reduceToNat, Int.reduceEq, Int.reduceNe, Int.reduceLT, Int.reduceLE, Bool.or_self, List.length_set, Int.natCast_zero, Int.cast_ofNat_Int, hx4, hi3', hw5, hb7, hx8, hc9d, hb13, hx14, hc15d])
          · (repeat' (first | exact weakR_nil | refine weakR_cons ?_ ?_ ?_)) <;> (first | rfl | simp only [go_sem, Nat.reduceLT, Nat.reduceEqDiff, Nat.reduceAdd, Nat.reduceBEq, Nat.reduceMul, Nat.reduceSub, reduceIte, Nat.reduceLeDiff, reduceCtorEq, Int.reduceNeg, Int.reduceToNat, Int.reduceEq, Int.reduceNe, Int.reduceLT, Int.reduceLE, Bool.or_self, List.length_set, Int.natCast_zero, Int.cast_ofNat_Int, hx4, hi3', hw5, hb7, hx8, hc9d, hb13, hx14, hc15d])
    · rw [hd6] at h
      simp only [balance_extremes_L1] at h
      simp (config := { maxSteps := 4000000 }) only [go_sem, Nat.reduceLT, Nat.reduceEqDiff, Nat.reduceAdd, Nat.reduceBEq, Nat.reduceMul, Nat.reduceSub, reduceIte, Nat.reduceLeDiff, reduceCtorEq, Int.reduceNeg, Int.reduceToNat, Int.reduceEq, Int.reduceNe, Int.reduceLT, Int.reduceLE, hi3']
      repeat' ((with_reducible refine and_bar ?_ ?_); kernel_rfl)
      refine W_cond_f rfl ?_
      simp (config := { maxSteps := 4000000 }) only [go_sem, Nat.reduceLT, Nat.reduceEqDiff, Nat.reduceAdd, Nat.reduceBEq, Nat.reduceMul, Nat.reduceSub, reduceIte, Nat.reduceLeDiff, reduceCtorEq, Int.reduceNeg, Int.reduceToNat, Int.reduceEq, Int.reduceNe, Int.reduceLT, Int.reduceLE, hi3', FinW_ret]
      repeat' ((with_reducible refine and_bar ?_ ?_); kernel_rfl)
      obtain rfl := Option.some.inj h
      exact ⟨_, rfl, (by exact ROk.refl _), (by repeat' (first | exact PureC.val _ | refine PureC.tup ?_ | refine PureC.agg ?_ | exact pure_nil | refine pure_cons ?_ ?_))⟩
def fs_balance_extremes (N : Nat) : FnS := { own := [], pure := true, fn := fun cs => match cs with
  | [c0] => ((decL 2 Load.dec) c0).bind fun qc0 => (balance_extremes N qc0).map fun r => .tup [.val (.int .i64 r.1), .val (.int .i64 r.2)]
  | _ => none }
theorem fs_balance_extremes_own (N : Nat) : (fs_balance_extremes N).own = [] := rfl
theorem fs_balance_extremes_pure (N : Nat) : (fs_balance_extremes N).pure = true := rfl
attribute [go_sem] fs_balance_extremes fs_balance_extremes_own fs_balance_extremes_pure
theorem fs_balance_extremes_ok (N : Nat) : FSOk Try.prog 30 (fs_balance_extremes N) := by
  refine ⟨fun cs r h => ?_, fun h => by cases h⟩
  simp only [fs_balance_extremes] at h
  split at h
  · simp only [Option.bind_eq_some_iff, Option.map_eq_some_iff] at h
    obtain ⟨q0, h0, r', hr, rfl⟩ := h
    exact ((w_balance_extremes N q0 r' hr).args (LeL.cons (decL_le Load.dec_le h0) (LeL.nil)))
  · cases h

end Go.Proofs.Ytpbloecedgddlaa
end

section
set_option linter.unusedSimpArgs false
set_option linter.unusedVariables false
set_option maxRecDepth 100000
namespace Go.Proofs.Ytpbloecedgddlaa
open Go Go.Proofs Go.Abs
noncomputable def E_balance_Plan (N : Nat) : Env := { T := tiOf Try.prog, G := fun d f => if d = 8 ∧ f = 14 then some (fs_balance_Valid N) else if d = 11 ∧ f = 31 then some (fso_slices_Clone_Load N) else if d = 14 ∧ f = 30 then some (fs_balance_extremes N) else none }
theorem E_balance_Plan_T (N : Nat) : (E_balance_Plan N).T = tiOf Try.prog := rfl
theorem E_balance_Plan_G0 (N : Nat) : (E_balance_Plan N).G 8 14 = some (fs_balance_Valid N) := rfl
theorem E_balance_Plan_G1 (N : Nat) : (E_balance_Plan N).G 11 31 = some (fso_slices_Clone_Load N) := rfl
theorem E_balance_Plan_G2 (N : Nat) : (E_balance_Plan N).G 14 30 = some (fs_balance_extremes N) := rfl
theorem E_balance_Plan_ok (N : Nat) : GOk Try.prog { T := tiOf Try.prog, G := (E_balance_Plan N).G } := by
  intro d f fs hfs
  simp only [E_balance_Plan] at hfs
  by_cases hc : d = 8 ∧ f = 14
  · rw [if_pos hc] at hfs; obtain ⟨rfl, rfl⟩ := hc; obtain rfl := Option.some.inj hfs; exact fs_balance_Valid_ok N
  rw [if_neg hc] at hfs
  by_cases hc : d = 11 ∧ f = 31
  · rw [if_pos hc] at hfs; obtain ⟨rfl, rfl⟩ := hc; obtain rfl := Option.some.inj hfs; exact fso_slices_Clone_Load_ok N
  rw [if_neg hc] at hfs
  by_cases hc : d = 14 ∧ f = 30
  · rw [if_pos hc] at hfs; obtain ⟨rfl, rfl⟩ := hc; obtain rfl := Option.some.inj hfs; exact fs_balance_extremes_ok N
  rw [if_neg hc] at hfs
  cases hfs
theorem fo_balance_Plan : FunOk Try.prog 27 Try.f27 Try.f27.body.get! := ⟨Try.func27, rfl, by decide, by kernel_rfl⟩
attribute [go_sem] E_balance_Plan_T E_balance_Plan_G0 E_balance_Plan_G1 E_balance_Plan_G2
set_option maxHeartbeats 4000000 in
theorem w_balance_Plan (N : Nat) (a0 : (List Load)) (r : (List LoadMove)) (h : balance_Plan N a0 = some r) : Con Try.prog 27 [] true [.sl false none 2 none (a0.map Load.row)] (.sl true none 2 none (r.map LoadMove.row)) := by
  refine fun_ok2 (E := E_balance_Plan N) (tiOf_ok Try.prog _) (E_balance_Plan_ok N) mix fo_balance_Plan (Nat.le_of_ble_eq_true rfl) ?_
  intro _
  rw [entry_tab (by simp)]
  rw [show entryF [] [.sl false none 2 none (a0.map Load.row)] = (updT deadT 0 (.sl false none 2 none (a0.map Load.row))) from by funext t; match t with | 0 => rfl | t + 1 => rfl]
  apply W_start
  simp only [Try.f27, Option.get!, R0_RZ]
  unfold balance_Plan at h
  obtain ⟨r1, hr1, h⟩ := Option.bind_eq_some_iff.1 h
  simp (config := { maxSteps := 4000000 }) only [go_sem, Nat.reduceLT, Nat.reduceEqDiff, Nat.reduceAdd, Nat.reduceBEq, Nat.reduceMul, Nat.reduceSub, reduceIte, Nat.reduceLeDiff, reduceCtorEq, Int.reduceNeg, Int.reduceToNat, Int.reduceEq, Int.reduceNe, Int.reduceLT, Int.reduceLE, hr1]
  repeat' ((with_reducible refine and_bar ?_ ?_); kernel_rfl)
  refine W_cond_nbool rfl (fun hc2 => ?_) (fun hc2 => ?_)
  · first | rw [if_neg (ne_true_of_eq_false hc2)] at h | simp only [hc2, Bool.or_false, Bool.or_true, Bool.false_or, Bool.true_or, Bool.and_true, Bool.true_and, Bool.and_false, Bool.false_and, Bool.not_true, Bool.not_false, Bool.false_eq_true, if_true, if_false] at h
    simp (config := { maxSteps := 4000000 }) only [go_sem, Nat.reduceLT, Nat.reduceEqDiff, Nat.reduceAdd, Nat.reduceBEq, Nat.reduceMul, Nat.reduceSub, reduceIte, Nat.reduceLeDiff, reduceCtorEq, Int.reduceNeg, Int.reduceToNat, Int.reduceEq, Int.reduceNe, Int.reduceLT, Int.reduceLE, hr1, hc2, FinW_ret]
    repeat' ((with_reducible refine and_bar ?_ ?_); kernel_rfl)
    obtain rfl := Option.some.inj h
    exact ⟨_, rfl, (by repeat' (first | exact ROk.refl _ | exact ROk.nil _ | ((refine ROk.of _ ?_ ?_); (focus ((repeat' (first | exact Le.refl _ | exact LeL.nil | exact Le.nils | exact LeLL.refl _ | refine LeLL.mapAppend ?_ ?_ | refine LeLL.cons ?_ ?_ | refine Le.sl ?_ | refine Le.tup ?_ | refine Le.agg ?_ | refine LeL.cons ?_ ?_)); done)); (focus ((repeat' (first | exact NoOwn.val _ | exact NoOwn.sl _ _ _ _ | refine NoOwn.tup ?_ | refine NoOwn.agg ?_ | exact noOwn_nil | refine noOwn_cons ?_ ?_)); done))) | ((refine ROk.own ?_ ?_); (focus ((repeat' (first | exact Le.refl _ | exact LeL.nil | exact Le.nils | exact LeLL.refl _ | refine LeLL.mapAppend ?_ ?_ | refine LeLL.cons ?_ ?_ | refine Le.sl ?_ | refine Le.tup ?_ | refine Le.agg ?_ | refine LeL.cons ?_ ?_)); done)); (focus ((first | exact RowOk.noOwn Load.row_ok _ | exact RowOk.noOwn LoadMove.row_ok _); done))) | refine ROk.agg rfl ?_ | refine ROk.tup rfl ?_ | exact rok_nil | refine rok_cons ?_ ?_)), (by (repeat' (first | exact PureC.val _ | refine PureC.tup ?_ | refine PureC.agg ?_ | exact pure_nil | refine pure_cons ?_ ?_ | refine PureC.sl ?_ | exact pure_rows Load.row_pure _ | exact pure_rows LoadMove.row_pure _ |  exact pure_rows_nil | refine pure_rows_append ?_ ?_ | refine pure_rows_cons ?_ ?_)))⟩
  · first | rw [if_pos hc2] at h | simp only [hc2, Bool.or_false, Bool.or_true, Bool.false_or, Bool.true_or, Bool.and_true, Bool.true_and, Bool.and_false, Bool.false_and, Bool.not_true, Bool.not_false, Bool.false_eq_true, if_true, if_false] at h
    obtain ⟨r2, hr3, h⟩ := Option.bind_eq_some_iff.1 h
    simp (config := { maxSteps := 4000000 }) only [go_sem, Nat.reduceLT, Nat.reduceEqDiff, Nat.reduceAdd, Nat.reduceBEq, Nat.reduceMul, Nat.reduceSub, reduceIte, Nat.reduceLeDiff, reduceCtorEq, Int.reduceNeg, Int.reduceToNat, Int.reduceEq, Int.reduceNe, Int.reduceLT, Int.reduceLE, hr1, hc2, hr3]
    repeat' ((with_reducible refine and_bar ?_ ?_); kernel_rfl)
    refine W_fuel (fun (b : List Load × List LoadMove) => ⟨tab 60 (updT (updT deadT 3 (.pal 43 [] 0 b.2.length none)) 4 (.pal 11 [] 0 b.1.length none)), (upd (upd RZ 11 (.sl true none 2 none (b.1.map Load.row))) 43 (.sl true none 2 none (b.2.map LoadMove.row)))⟩) (r2, []) h ?_ ?_
    · refine Weak.trans (weak_adopt 3 43 2 (by simp only [go_sem, Nat.reduceLT, Nat.reduceEqDiff, Nat.reduceAdd, Nat.reduceBEq, Nat.reduceMul, Nat.reduceSub, reduceIte, Nat.reduceLeDiff, reduceCtorEq, Int.reduceNeg, Int.reduceToNat, Int.reduceEq, Int.reduceNe, Int.reduceLT, Int.reduceLE, Bool.or_self, List.length_set, Int.natCast_zero, Int.cast_ofNat_Int, hr1, hc2, hr3]) (by simp only [go_sem, Nat.reduceLT, Nat.reduceEqDiff, Nat.reduceAdd, Nat.reduceBEq, Nat.reduceMul, Nat.reduceSub, reduceIte, Nat.reduceLeDiff, reduceCtorEq, Int.reduceNeg, Int.reduceToNat, Int.reduceEq, Int.reduceNe, Int.reduceLT, Int.reduceLE, Bool.or_self, List.length_set, Int.natCast_zero, Int.cast_ofNat_Int, hr1, hc2, hr3])) ?_
      refine weak_roots ?_ ?_
      · (repeat' (first | exact weakX_nil | refine weakX_cons ?_ ?_)) <;> (first | rfl | simp only [go_sem, Nat.reduceLT, Nat.reduceEqDiff, Nat.reduceAdd, Nat.reduceBEq, Nat.reduceMul, Nat.reduceSub, reduceIte, Nat.reduceLeDiff, reduceCtorEq, Int.reduceNeg, Int.reduceToNat, Int.reduceEq, Int.reduceNe, Int.reduceLT, Int.reduceLE, Bool.or_self, List.length_set, Int.natCast_zero, Int.cast_ofNat_Int, hr1, hc2, hr3])
      · (repeat' (first | exact weakR_nil | refine weakR_cons ?_ ?_ ?_)) <;> (first | rfl | simp only [go_sem, Nat.reduceLT, Nat.reduceEqDiff, Nat.reduceAdd, Nat.reduceBEq, Nat.reduceMul, Nat.reduceSub, reduceIte, Nat.reduceLeDiff, reduceCtorEq, Int.reduceNeg, Int.reduceToNat, Int.reduceEq, Int.reduceNe, Int.reduceLT, Int.reduceLE, Bool.or_self, List.length_set, Int.natCast_zero, Int.cast_ofNat_Int, hr1, hc2, hr3])
    · rintro n ⟨l4, l5⟩ h -
      cases n with
      | zero => simp [balance_Plan_L1] at h
      | succ n =>
      simp only [balance_Plan_L1] at h
      obtain ⟨r3, hr4, h⟩ := Option.bind_eq_some_iff.1 h
      obtain ⟨x4, hb5, hx6, h⟩ := gx_some h
      obtain ⟨x5, hb7, hx8, h⟩ := gx_some h
      simp (config := { maxSteps := 4000000 }) only [go_sem, Nat.reduceLT, Nat.reduceEqDiff, Nat.reduceAdd, Nat.reduceBEq, Nat.reduceMul, Nat.reduceSub, reduceIte, Nat.reduceLeDiff, reduceCtorEq, Int.reduceNeg, Int.reduceToNat, Int.reduceEq, Int.reduceNe, Int.reduceLT, Int.reduceLE, hr1, hc2, hr3, hr4, hb5, hx6, hb7, hx8]
      repeat' ((with_reducible refine and_bar ?_ ?_); kernel_rfl)
      refine W_cond_dec rfl (fun hc9 => ?_) (fun hc9 => ?_)
      · have hc9d := decide_eq_true hc9
        first | rw [if_pos hc9] at h | rw [if_pos hc9d] at h | simp only [hc9d, Bool.not_true, Bool.not_false, Bool.false_eq_true, if_true, if_false] at h
        simp (config := { maxSteps := 4000000 }) only [go_sem, Nat.reduceLT, Nat.reduceEqDiff, Nat.reduceAdd, Nat.reduceBEq, Nat.reduceMul, Nat.reduceSub, reduceIte, Nat.reduceLeDiff, reduceCtorEq, Int.reduceNeg, Int.reduceToNat, Int.reduceEq, Int.reduceNe, Int.reduceLT, Int.reduceLE, hr1, hc2, hr3, hr4, hb5, hx6, hb7, hx8, hc9d, FinW_ret]
        repeat' ((with_reducible refine and_bar ?_ ?_); kernel_rfl)
        obtain rfl := Option.some.inj h
        exact ⟨_, rfl, (by repeat' (first | exact ROk.refl _ | exact ROk.nil _ | ((refine ROk.of _ ?_ ?_); (focus ((repeat' (first | exact Le.refl _ | exact LeL.nil | exact Le.nils | exact LeLL.refl _ | refine LeLL.mapAppend ?_ ?_ | refine LeLL.cons ?_ ?_ | refine Le.sl ?_ | refine Le.tup ?_ | refine Le.agg ?_ | refine LeL.cons ?_ ?_)); done)); (focus ((repeat' (first | exact NoOwn.val _ | exact NoOwn.sl _ _ _ _ | refine NoOwn.tup ?_ | refine NoOwn.agg ?_ | exact noOwn_nil | refine noOwn_cons ?_ ?_)); done))) | ((refine ROk.own ?_ ?_); (focus ((repeat' (first | exact Le.refl _ | exact LeL.nil | exact Le.nils | exact LeLL.refl _ | refine LeLL.mapAppend ?_ ?_ | refine LeLL.cons ?_ ?_ | refine Le.sl ?_ | refine Le.tup ?_ | refine Le.agg ?_ | refine LeL.cons ?_ ?_)); done)); (focus ((first | exact RowOk.noOwn Load.row_ok _ | exact RowOk.noOwn LoadMove.row_ok _); done))) | refine ROk.agg rfl ?_ | refine ROk.tup rfl ?_ | exact rok_nil | refine rok_cons ?_ ?_)), (by (repeat' (first | exact PureC.val _ | refine PureC.tup ?_ | refine PureC.agg ?_ | exact pure_nil | refine pure_cons ?_ ?_ | refine PureC.sl ?_ | exact pure_rows Load.row_pure _ | exact pure_rows LoadMove.row_pure _ |  exact pure_rows_nil | refine pure_rows_append ?_ ?_ | refine pure_rows_cons ?_ ?_)))⟩
      · have hc9d := decide_eq_false hc9
        first | rw [if_neg hc9] at h | rw [if_neg (ne_true_of_eq_false hc9d)] at h | simp only [hc9d, Bool.not_true, Bool.not_false, Bool.false_eq_true, if_true, if_false] at h
        obtain ⟨ha10, h⟩ := apx_some h
        simp only [List.length_cons, List.length_nil, Nat.zero_add, Nat.add_zero, Nat.reduceAdd] at ha10
        have hx12 := set_get (y := (Load.mk x4.Member (IntKind.i64.wrap (x4.Actors - 1)))) hx6
        obtain ⟨x6, hb13, hx14, h⟩ := gx_some h
        have hx16 := set_get (y := (Load.mk x6.Member (IntKind.i64.wrap (x6.Actors + 1)))) hx14
        simp (config := { maxSteps := 4000000 }) only [go_sem, Nat.reduceLT, Nat.reduceEqDiff, Nat.reduceAdd, Nat.reduceBEq, Nat.reduceMul, Nat.reduceSub, reduceIte, Nat.reduceLeDiff, reduceCtorEq, Int.reduceNeg, Int.reduceToNat, Int.reduceEq, Int.reduceNe, Int.reduceLT, Int.reduceLE, hr1, hc2, hr3, hr4, hb5, hx6, hb7, hx8, hc9d, ha10, map_modify2 (row := Load.row) (y := (Load.mk x4.Member (IntKind.i64.wrap (x4.Actors - 1)))) (rx := [.val (.int .i64 x4.Member), .val (.int .i64 x4.Actors)]) (ry := [.val (.int .i64 x4.Member), .val (.int .i64 (IntKind.i64.wrap (x4.Actors - 1)))]) hx6 rfl rfl, hx12, hb13, hx14, map_modify2 (row := Load.row) (y := (Load.mk x6.Member (IntKind.i64.wrap (x6.Actors + 1)))) (rx := [.val (.int .i64 x6.Member), .val (.int .i64 x6.Actors)]) (ry := [.val (.int .i64 x6.Member), .val (.int .i64 (IntKind.i64.wrap (x6.Actors + 1)))]) hx14 rfl rfl, hx16]
        repeat' ((with_reducible refine and_bar ?_ ?_); kernel_rfl)
        refine ⟨_, Nat.lt_succ_self _, (((l4.set ((r3.2).toNat) (Load.mk x4.Member (IntKind.i64.wrap (x4.Actors - 1)))).set ((r3.1).toNat) (Load.mk x6.Member (IntKind.i64.wrap (x6.Actors + 1)))), (l5 ++ [(LoadMove.mk x4.Member x5.Member)])), ?_, h⟩
        refine weak_roots ?_ ?_
        · (repeat' (first | exact weakX_nil | refine weakX_cons ?_ ?_)) <;> (first | rfl | simp only [go_sem, Nat.reduceLT, Nat.reduceEqDiff, Nat.reduceAdd, Nat.reduceBEq, Nat.reduceMul, Nat.reduceSub, reduceIte, Nat.reduceLeDiff, reduceCtorEq, Int.reduceNeg, Int.reduceToNat, Int.reduceEq, Int.reduceNe, Int.reduceLT, Int.reduceLE, Bool.or_self, List.length_set, Int.natCast_zero, Int.cast_ofNat_Int, hr1, hc2, hr3, hr4, hb5, hx6, hb7, hx8, hc9d, ha10, map_modify2 (row := Load.row) (y := (Load.mk x4.Member (IntKind.i64.wrap (x4.Actors - 1)))) (rx := [.val (.int .i64 x4.Member), .val (.int .i64 x4.Actors)]) (ry := [.val (.int .i64 x4.Member), .val (.int .i64 (IntKind.i64.wrap (x4.Actors - 1)))]) hx6 rfl rfl, hx12, hb13, hx14, map_modify2 (row := Load.row) (y := (Load.mk x6.Member (IntKind.i64.wrap (x6.Actors + 1)))) (rx := [.val (.int .i64 x6.Member), .val (.int .i64 x6.Actors)]) (ry := [.val (.int .i64 x6.Member), .val (.int .i64 (IntKind.i64.wrap (x6.Actors + 1)))]) hx14 rfl rfl, hx16])
        · (repeat' (first | exact weakR_nil | refine weakR_cons ?_ ?_ ?_)) <;> (first | rfl | simp only [go_sem, Nat.reduceLT, Nat.reduceEqDiff, Nat.reduceAdd, Nat.reduceBEq, Nat.reduceMul, Nat.reduceSub, reduceIte, Nat.reduceLeDiff, reduceCtorEq, Int.reduceNeg, Int.reduceToNat, Int.reduceEq, Int.reduceNe, Int.reduceLT, Int.reduceLE, Bool.or_self, List.length_set, Int.natCast_zero, Int.cast_ofNat_Int, hr1, hc2, hr3, hr4, hb5, hx6, hb7, hx8, hc9d, ha10, map_modify2 (row := Load.row) (y := (Load.mk x4.Member (IntKind.i64.wrap (x4.Actors - 1)))) (rx := [.val (.int .i64 x4.Member), .val (.int .i64 x4.Actors)]) (ry := [.val (.int .i64 x4.Member), .val (.int .i64 (IntKind.i64.wrap (x4.Actors - 1)))]) hx6 rfl rfl, hx12, hb13, hx14, map_modify2 (row := Load.row) (y := (Load.mk x6.Member (IntKind.i64.wrap (x6.Actors + 1)))) (rx := [.val (.int .i64 x6.Member), .val (.int .i64 x6.Actors)]) (ry := [.val (.int .i64 x6.Member), .val (.int .i64 (IntKind.i64.wrap (x6.Actors + 1)))]) hx14 rfl rfl, hx16])
def fs_balance_Plan (N : Nat) : FnS := { own := [], pure := true, fn := fun cs => match cs with
  | [c0] => ((decL 2 Load.dec) c0).bind fun qc0 => (balance_Plan N qc0).map fun r => .sl false none 2 none (r.map LoadMove.row)
  | _ => none }
theorem fs_balance_Plan_own (N : Nat) : (fs_balance_Plan N).own = [] := rfl
theorem fs_balance_Plan_pure (N : Nat) : (fs_balance_Plan N).pure = true := rfl
attribute [go_sem] fs_balance_Plan fs_balance_Plan_own fs_balance_Plan_pure
theorem fs_balance_Plan_ok (N : Nat) : FSOk Try.prog 27 (fs_balance_Plan N) := by
  refine ⟨fun cs r h => ?_, fun h => by cases h⟩
  simp only [fs_balance_Plan] at h
  split at h
  · simp only [Option.bind_eq_some_iff, Option.map_eq_some_iff] at h
    obtain ⟨q0, h0, r', hr, rfl⟩ := h
    exact (((w_balance_Plan N q0 r' hr).args (LeL.cons (decL_le Load.dec_le h0) (LeL.nil))).res (by repeat' (first | exact ROk.refl _ | exact ROk.nil _ | ((refine ROk.of _ ?_ ?_); (focus ((repeat' (first | exact Le.refl _ | exact LeL.nil | exact Le.nils | exact LeLL.refl _ | refine LeLL.mapAppend ?_ ?_ | refine LeLL.cons ?_ ?_ | refine Le.sl ?_ | refine Le.tup ?_ | refine Le.agg ?_ | refine LeL.cons ?_ ?_)); done)); (focus ((repeat' (first | exact NoOwn.val _ | exact NoOwn.sl _ _ _ _ | refine NoOwn.tup ?_ | refine NoOwn.agg ?_ | exact noOwn_nil | refine noOwn_cons ?_ ?_)); done))) | ((refine ROk.own ?_ ?_); (focus ((repeat' (first | exact Le.refl _ | exact LeL.nil | exact Le.nils | exact LeLL.refl _ | refine LeLL.mapAppend ?_ ?_ | refine LeLL.cons ?_ ?_ | refine Le.sl ?_ | refine Le.tup ?_ | refine Le.agg ?_ | refine LeL.cons ?_ ?_)); done)); (focus ((first | exact RowOk.noOwn Load.row_ok _ | exact RowOk.noOwn LoadMove.row_ok _); done))) | refine ROk.agg rfl ?_ | refine ROk.tup rfl ?_ | exact rok_nil | refine rok_cons ?_ ?_)))
  · cases h

def fso_balance_Plan (N : Nat) : FnS := { own := [], pure := true, fn := fun cs => match cs with
  | [c0] => ((decL 2 Load.dec) c0).bind fun qc0 => (balance_Plan N qc0).map fun r => .sl true none 2 none (r.map LoadMove.row)
  | _ => none }
theorem fso_balance_Plan_own (N : Nat) : (fso_balance_Plan N).own = [] := rfl
theorem fso_balance_Plan_pure (N : Nat) : (fso_balance_Plan N).pure = true := rfl
attribute [go_sem] fso_balance_Plan fso_balance_Plan_own fso_balance_Plan_pure
theorem fso_balance_Plan_ok (N : Nat) : FSOk Try.prog 27 (fso_balance_Plan N) := by
  refine ⟨fun cs r h => ?_, fun h => by cases h⟩
  simp only [fso_balance_Plan] at h
  split at h
  · simp only [Option.bind_eq_some_iff, Option.map_eq_some_iff] at h
    obtain ⟨q0, h0, r', hr, rfl⟩ := h
    exact ((w_balance_Plan N q0 r' hr).args (LeL.cons (decL_le Load.dec_le h0) (LeL.nil)))
  · cases h

end Go.Proofs.Ytpbloecedgddlaa
end

section
set_option linter.unusedSimpArgs false
set_option linter.unusedVariables false
set_option maxRecDepth 100000
namespace Go.Proofs.Ytpbloecedgddlaa
open Go Go.Proofs Go.Abs
noncomputable def E_balance_Total (N : Nat) : Env := { T := tiOf Try.prog, G := fun d f => if d = 7 ∧ f = 14 then some (fs_balance_Valid N) else none }
theorem E_balance_Total_T (N : Nat) : (E_balance_Total N).T = tiOf Try.prog := rfl
theorem E_balance_Total_G0 (N : Nat) : (E_balance_Total N).G 7 14 = some (fs_balance_Valid N) := rfl
theorem E_balance_Total_ok (N : Nat) : GOk Try.prog { T := tiOf Try.prog, G := (E_balance_Total N).G } := by
  intro d f fs hfs
  simp only [E_balance_Total] at hfs
  by_cases hc : d = 7 ∧ f = 14
  · rw [if_pos hc] at hfs; obtain ⟨rfl, rfl⟩ := hc; obtain rfl := Option.some.inj hfs; exact fs_balance_Valid_ok N
  rw [if_neg hc] at hfs
  cases hfs
theorem fo_balance_Total : FunOk Try.prog 22 Try.f22 Try.f22.body.get! := ⟨Try.func22, rfl, by decide, by kernel_rfl⟩
attribute [go_sem] E_balance_Total_T E_balance_Total_G0
set_option maxHeartbeats 4000000 in
theorem w_balance_Total (N : Nat) (a0 : (List Load)) (r : Int) (h : balance_Total N a0 = some r) : Con Try.prog 22 [] true [.sl false none 2 none (a0.map Load.row)] (.val (.int .i64 r)) := by
  refine fun_ok2 (E := E_balance_Total N) (tiOf_ok Try.prog _) (E_balance_Total_ok N) mix fo_balance_Total (Nat.le_of_ble_eq_true rfl) ?_
  intro _
  rw [entry_tab (by simp)]
  rw [show entryF [] [.sl false none 2 none (a0.map Load.row)] = (updT deadT 0 (.sl false none 2 none (a0.map Load.row))) from by funext t; match t with | 0 => rfl | t + 1 => rfl]
  apply W_start
  simp only [Try.f22, Option.get!, R0_RZ]
  unfold balance_Total at h
  obtain ⟨r1, hr1, h⟩ := Option.bind_eq_some_iff.1 h
  simp (config := { maxSteps := 4000000 }) only [go_sem, Nat.reduceLT, Nat.reduceEqDiff, Nat.reduceAdd, Nat.reduceBEq, Nat.reduceMul, Nat.reduceSub, reduceIte, Nat.reduceLeDiff, reduceCtorEq, Int.reduceNeg, Int.reduceToNat, Int.reduceEq, Int.reduceNe, Int.reduceLT, Int.reduceLE, hr1]
  refine W_cond_nbool rfl (fun hc2 => ?_) (fun hc2 => ?_)
  · first | rw [if_neg (ne_true_of_eq_false hc2)] at h | simp only [hc2, Bool.or_false, Bool.or_true, Bool.false_or, Bool.true_or, Bool.and_true, Bool.true_and, Bool.and_false, Bool.false_and, Bool.not_true, Bool.not_false, Bool.false_eq_true, if_true, if_false] at h
    simp (config := { maxSteps := 4000000 }) only [go_sem, Nat.reduceLT, Nat.reduceEqDiff, Nat.reduceAdd, Nat.reduceBEq, Nat.reduceMul, Nat.reduceSub, reduceIte, Nat.reduceLeDiff, reduceCtorEq, Int.reduceNeg, Int.reduceToNat, Int.reduceEq, Int.reduceNe, Int.reduceLT, Int.reduceLE, hr1, hc2, FinW_ret]
    obtain rfl := Option.some.inj h
    exact ⟨_, rfl, (by exact ROk.refl _), (by repeat' (first | exact PureC.val _ | refine PureC.tup ?_ | refine PureC.agg ?_ | exact pure_nil | refine pure_cons ?_ ?_))⟩
  · first | rw [if_pos hc2] at h | simp only [hc2, Bool.or_false, Bool.or_true, Bool.false_or, Bool.true_or, Bool.and_true, Bool.true_and, Bool.and_false, Bool.false_and, Bool.not_true, Bool.not_false, Bool.false_eq_true, if_true, if_false] at h
    simp (config := { maxSteps := 4000000 }) only [go_sem, Nat.reduceLT, Nat.reduceEqDiff, Nat.reduceAdd, Nat.reduceBEq, Nat.reduceMul, Nat.reduceSub, reduceIte, Nat.reduceLeDiff, reduceCtorEq, Int.reduceNeg, Int.reduceToNat, Int.reduceEq, Int.reduceNe, Int.reduceLT, Int.reduceLE, hr1, hc2]
    refine W_real fun hreal4 => ?_
    have hl3 := hreal4.lenT 0 (by decide) (by simp only [go_sem, Nat.reduceLT, Nat.reduceEqDiff, Nat.reduceAdd, Nat.reduceBEq, Nat.reduceMul, Nat.reduceSub, reduceIte, Nat.reduceLeDiff, reduceCtorEq, Int.reduceNeg, Int.reduceToNat, Int.reduceEq, Int.reduceNe, Int.reduceLT, Int.reduceLE, Bool.or_self, List.length_set, Int.natCast_zero, Int.cast_ofNat_Int, hr1, hc2]; rfl)
    rw [List.length_map] at hl3
    refine W_range (fun (v5 : Nat) (b : Int) => ⟨tab 21 (updT (updT (updT (updT deadT 3 (.val (.int .i64 b))) 9 (.sl false none 2 none (a0.map Load.row))) 10 (.val (.int .i64 ((a0.length : Nat) : Int)))) 11 (.val (.int .i64 ((v5 : Nat) : Int)))), RZ⟩) 0 h ?_ ?_
    · refine weak_roots ?_ ?_
      · (repeat' (first | exact weakX_nil | refine weakX_cons ?_ ?_)) <;> (first | rfl | simp only [go_sem, Nat.reduceLT, Nat.reduceEqDiff, Nat.reduceAdd, Nat.reduceBEq, Nat.reduceMul, Nat.reduceSub, reduceIte, Nat.reduceLeDiff, reduceCtorEq, Int.reduceNeg, Int.reduceToNat, Int.reduceEq, Int.reduceNe, Int.reduceLT, Int.reduceLE, Bool.or_self, List.length_set, Int.natCast_zero, Int.cast_ofNat_Int, hr1, hc2])
      · (repeat' (first | exact weakR_nil | refine weakR_cons ?_ ?_ ?_)) <;> (first | rfl | simp only [go_sem, Nat.reduceLT, Nat.reduceEqDiff, Nat.reduceAdd, Nat.reduceBEq, Nat.reduceMul, Nat.reduceSub, reduceIte, Nat.reduceLeDiff, reduceCtorEq, Int.reduceNeg, Int.reduceToNat, Int.reduceEq, Int.reduceNe, Int.reduceLT, Int.reduceLE, Bool.or_self, List.length_set, Int.natCast_zero, Int.cast_ofNat_Int, hr1, hc2])
    · rintro v5 v4 hi5 h -
      rcases drop_cases a0 v5 hi5 with ⟨x8, hi5', hx6, hd8⟩ | ⟨hi5', _, hd8⟩
      · rw [hd8] at h
        simp only [balance_Total_L1] at h
        have hw7 := wrap_succ hi5' hl3
        simp (config := { maxSteps := 4000000 }) only [go_sem, Nat.reduceLT, Nat.reduceEqDiff, Nat.reduceAdd, Nat.reduceBEq, Nat.reduceMul, Nat.reduceSub, reduceIte, Nat.reduceLeDiff, reduceCtorEq, Int.reduceNeg, Int.reduceToNat, Int.reduceEq, Int.reduceNe, Int.reduceLT, Int.reduceLE, hr1, hc2, hx6, hi5', hw7]
        refine W_cond_t rfl ?_
        simp (config := { maxSteps := 4000000 }) only [go_sem, Nat.reduceLT, Nat.reduceEqDiff, Nat.reduceAdd, Nat.reduceBEq, Nat.reduceMul, Nat.reduceSub, reduceIte, Nat.reduceLeDiff, reduceCtorEq, Int.reduceNeg, Int.reduceToNat, Int.reduceEq, Int.reduceNe, Int.reduceLT, Int.reduceLE, hr1, hc2, hx6, hi5', hw7]
        first | refine ⟨(IntKind.i64.wrap (v4 + x8.Actors)), ?_, h⟩ | refine ⟨hi5', (IntKind.i64.wrap (v4 + x8.Actors)), ?_, h⟩
        refine weak_roots ?_ ?_
        · (repeat' (first | exact weakX_nil | refine weakX_cons ?_ ?_)) <;> (first | rfl | simp only [go_sem, Nat.reduceLT, Nat.reduceEqDiff, Nat.reduceAdd, Nat.reduceBEq, Nat.reduceMul, Nat.reduceSub, reduceIte, Nat.reduceLeDiff, reduceCtorEq, Int.reduceNeg, Int.reduceToNat, Int.reduceEq, Int.reduceNe, Int.reduceLT, Int.reduceLE, Bool.or_self, List.length_set, Int.natCast_zero, Int.cast_ofNat_Int, hr1, hc2, hx6, hi5', hw7])
        · (repeat' (first | exact weakR_nil | refine weakR_cons ?_ ?_ ?_)) <;> (first | rfl | simp only [go_sem, Nat.reduceLT, Nat.reduceEqDiff, Nat.reduceAdd, Nat.reduceBEq, Nat.reduceMul, Nat.reduceSub, reduceIte, Nat.reduceLeDiff, reduceCtorEq, Int.reduceNeg, Int.reduceToNat, Int.reduceEq, Int.reduceNe, Int.reduceLT, Int.reduceLE, Bool.or_self, List.length_set, Int.natCast_zero, Int.cast_ofNat_Int, hr1, hc2, hx6, hi5', hw7])
      · rw [hd8] at h
        simp only [balance_Total_L1] at h
        simp (config := { maxSteps := 4000000 }) only [go_sem, Nat.reduceLT, Nat.reduceEqDiff, Nat.reduceAdd, Nat.reduceBEq, Nat.reduceMul, Nat.reduceSub, reduceIte, Nat.reduceLeDiff, reduceCtorEq, Int.reduceNeg, Int.reduceToNat, Int.reduceEq, Int.reduceNe, Int.reduceLT, Int.reduceLE, hr1, hc2, hi5']
        refine W_cond_f rfl ?_
        simp (config := { maxSteps := 4000000 }) only [go_sem, Nat.reduceLT, Nat.reduceEqDiff, Nat.reduceAdd, Nat.reduceBEq, Nat.reduceMul, Nat.reduceSub, reduceIte, Nat.reduceLeDiff, reduceCtorEq, Int.reduceNeg, Int.reduceToNat, Int.reduceEq, Int.reduceNe, Int.reduceLT, Int.reduceLE, hr1, hc2, hi5', FinW_ret]
        obtain rfl := Option.some.inj h
        exact ⟨_, rfl, (by exact ROk.refl _), (by repeat' (first | exact PureC.val _ | refine PureC.tup ?_ | refine PureC.agg ?_ | exact pure_nil | refine pure_cons ?_ ?_))⟩
def fs_balance_Total (N : Nat) : FnS := { own := [], pure := true, fn := fun cs => match cs with
  | [c0] => ((decL 2 Load.dec) c0).bind fun qc0 => (balance_Total N qc0).map fun r => .val (.int .i64 r)
  | _ => none }
theorem fs_balance_Total_own (N : Nat) : (fs_balance_Total N).own = [] := rfl
theorem fs_balance_Total_pure (N : Nat) : (fs_balance_Total N).pure = true := rfl
attribute [go_sem] fs_balance_Total fs_balance_Total_own fs_balance_Total_pure
theorem fs_balance_Total_ok (N : Nat) : FSOk Try.prog 22 (fs_balance_Total N) := by
  refine ⟨fun cs r h => ?_, fun h => by cases h⟩
  simp only [fs_balance_Total] at h
  split at h
  · simp only [Option.bind_eq_some_iff, Option.map_eq_some_iff] at h
    obtain ⟨q0, h0, r', hr, rfl⟩ := h
    exact ((w_balance_Total N q0 r' hr).args (LeL.cons (decL_le Load.dec_le h0) (LeL.nil)))
  · cases h

end Go.Proofs.Ytpbloecedgddlaa
end

section
set_option linter.unusedSimpArgs false
set_option linter.unusedVariables false
set_option maxRecDepth 100000
namespace Go.Proofs.Ytpbloecedgddlaa
open Go Go.Proofs Go.Abs
def fs_overlaps_slices_Insert_Load : FnS := { own := [true, true], pure := false, fn := fun _ => none, peek := true }
theorem fs_overlaps_slices_Insert_Load_own : fs_overlaps_slices_Insert_Load.own = [true, true] := rfl
theorem fs_overlaps_slices_Insert_Load_peek : fs_overlaps_slices_Insert_Load.peek = true := rfl
theorem overlaps_slices_Insert_Load : PeekOk Try.prog 45 :=
  peek_of (fn := Try.f45) (tS := 22) (tR := 4) (e := 40) (size := 2) Try.func45 rfl rfl (by kernel_rfl) (by kernel_rfl) (by kernel_rfl) (by kernel_rfl)
theorem fs_overlaps_slices_Insert_Load_ok : FSOk Try.prog 45 fs_overlaps_slices_Insert_Load := ⟨(fun cs r h => by simp [fs_overlaps_slices_Insert_Load] at h), fun _ => overlaps_slices_Insert_Load⟩
noncomputable def E_slices_Insert_Load : Env := { T := tiOf Try.prog, G := fun d f => if d = 67 ∧ f = 45 then some fs_overlaps_slices_Insert_Load else none }
theorem E_slices_Insert_Load_T : E_slices_Insert_Load.T = tiOf Try.prog := rfl
theorem E_slices_Insert_Load_G : E_slices_Insert_Load.G 67 45 = some fs_overlaps_slices_Insert_Load := rfl
theorem E_slices_Insert_Load_ok : GOk Try.prog { T := tiOf Try.prog, G := E_slices_Insert_Load.G } := by
  intro d f fs hfs
  simp only [E_slices_Insert_Load] at hfs
  split at hfs
  · rename_i hc; obtain ⟨rfl, rfl⟩ := hc; obtain rfl := Option.some.inj hfs; exact fs_overlaps_slices_Insert_Load_ok
  cases hfs
theorem fo_slices_Insert_Load : FunOk Try.prog 43 Try.f43 Try.f43.body.get! := ⟨Try.func43, rfl, by decide, by kernel_rfl⟩
set_option maxHeartbeats 4000000 in
theorem w1_slices_Insert_Load {α : Type} (row : α → List C) (ok : RowOk row) (l : List α) (i : Nat) (x : α) (k : Nat) (r : List α) (hr : r = l.take i ++ [x] ++ l.drop i) (hi : i ≤ l.length) (hsz : (l.length + 1) * 17 ≤ 140737488355328) (hk1 : l.length ≤ k) (hk2 : k ≤ maxLen) :
    Con Try.prog 43 [true, false, true] false [.sl true none 2 (some k) (l.map row), .val (.int .i64 i), .sl true none 2 none ([x].map row)] (.sl true none 2 none (r.map row)) := by
  refine fun_own (E := E_slices_Insert_Load) (tiOf_ok Try.prog _) E_slices_Insert_Load_ok mix fo_slices_Insert_Load (Nat.le_of_ble_eq_true rfl) ?_
  intro _
  rw [entry_tab (by simp)]
  rw [show entryF [true, false, true] [C.sl true none 2 (some k) (l.map row), C.val (.int .i64 i), C.sl true none 2 none ([x].map row)] = (updT (updT (updT deadT 0 (.pal 0 [] 0 l.length none)) 1 (.val (.int .i64 i))) 2 (.pal 2 [] 0 1 none)) from by funext t; match t with | 0 => simp [entryF, entryTmp, viewD, updT] | 1 => rfl | 2 => rfl | t + 3 => rfl]
  rw [show R0 [true, false, true] [C.sl true none 2 (some k) (l.map row), C.val (.int .i64 i), C.sl true none 2 none ([x].map row)] = upd (upd RZ 0 (C.sl true none 2 (some k) (l.map row))) 2 (C.sl true none 2 none ([x].map row)) from by funext t; match t with | 0 => rfl | 1 => rfl | 2 => rfl | t + 3 => rfl]
  apply W_start
  simp only [Try.f43, Option.get!]
  have hi1 : (i : Int) ≤ (l.length : Int) := by omega
  have hi2 : i ≤ l.length := hi
  have h10 : (((1 : Nat) : Int) = 0) = False := by simp
  have hp : (row x).all Abs.plainCell = true := ok.plain x
  have hf : (row x).map C.frz = (row x) := ok.frz x
  have hpD : (row x).all plainD = true := by have := (RowOk.allD ok [x]); simpa using this
  have hw1 : IntKind.i64.wrap ((l.length : Int) + ((1 : Nat) : Int)) = ((l.length + 1 : Nat) : Int) := by rw [wrap64_in (by omega) (by omega)]; rfl
  have hlt0 : (l.take i).length = i := by simp; omega
  have hes : (2 != 0) = true := rfl
  have hm1 : min 1 (l.length + 1 - i) = 1 := by omega
  have hm2 : min (l.length - i) (l.length + 1 - (i + 1)) = l.length - i := by omega
  have hm3 : (l.drop i).take (l.length - i) = l.drop i := List.take_of_length_le (by simp)
  have hm4 : i + 1 ≤ l.length + 1 := by omega
  have hw2 : IntKind.i64.wrap (((l.length + 1 : Nat) : Int) - (i : Int)) = ((l.length + 1 - i : Nat) : Int) := by rw [wrap64_in (by omega) (by omega)]; omega
  have hw3 : IntKind.i64.wrap ((i : Int) + ((1 : Nat) : Int)) = ((i + 1 : Nat) : Int) := by rw [wrap64_in (by omega) (by omega)]; rfl
  simp only [go_sem, Nat.reduceLT, Nat.reduceEqDiff, Nat.reduceAdd, Nat.reduceBEq, Nat.reduceMul, Nat.reduceSub, reduceIte, Nat.reduceLeDiff, reduceCtorEq, Int.reduceNeg, Int.reduceToNat, Int.reduceEq, Int.reduceNe, Int.reduceLT, Int.reduceLE, E_slices_Insert_Load_T, E_slices_Insert_Load_G, hi1, hi2, h10, Nat.le_refl, hp, hf, hpD, RowOk.frzRows ok, RowOk.all ok, RowOk.allPlain ok, RowOk.allD ok, rewritten, RX_cap, RX_copy, altX, roomS, roomC, cutC, copyX, resliceX, appendNewX, extOf, Ext.all, peekX, isOwnRoot, Option.map_some, hw1, hw2, hw3, Nat.zero_le, Nat.sub_zero, deepV, bne_self_eq_false, List.isEmpty_nil, decide_not, List.length_replicate, hlt0, hm1, hm2, hm3, hm4, fs_overlaps_slices_Insert_Load_own, fs_overlaps_slices_Insert_Load_peek, Nat.not_succ_le_self]
  refine W_cond_f rfl ?_
  simp only [go_sem, Nat.reduceLT, Nat.reduceEqDiff, Nat.reduceAdd, Nat.reduceBEq, Nat.reduceMul, Nat.reduceSub, reduceIte, Nat.reduceLeDiff, reduceCtorEq, Int.reduceNeg, Int.reduceToNat, Int.reduceEq, Int.reduceNe, Int.reduceLT, Int.reduceLE, E_slices_Insert_Load_T, E_slices_Insert_Load_G, hi1, hi2, h10, Nat.le_refl, hp, hf, hpD, RowOk.frzRows ok, RowOk.all ok, RowOk.allPlain ok, RowOk.allD ok, rewritten, RX_cap, RX_copy, altX, roomS, roomC, cutC, copyX, resliceX, appendNewX, extOf, Ext.all, peekX, isOwnRoot, Option.map_some, hw1, hw2, hw3, Nat.zero_le, Nat.sub_zero, deepV, bne_self_eq_false, List.isEmpty_nil, decide_not, List.length_replicate, hlt0, hm1, hm2, hm3, hm4, fs_overlaps_slices_Insert_Load_own, fs_overlaps_slices_Insert_Load_peek, Nat.not_succ_le_self]
  refine W_cond_dec rfl (fun hc => ?_) (fun hc => ?_)
  · have e : i = l.length := by omega
    subst e
    simp only [go_sem, Nat.reduceLT, Nat.reduceEqDiff, Nat.reduceAdd, Nat.reduceBEq, Nat.reduceMul, Nat.reduceSub, reduceIte, Nat.reduceLeDiff, reduceCtorEq, Int.reduceNeg, Int.reduceToNat, Int.reduceEq, Int.reduceNe, Int.reduceLT, Int.reduceLE, E_slices_Insert_Load_T, E_slices_Insert_Load_G, hi1, hi2, h10, Nat.le_refl, hp, hf, hpD, RowOk.frzRows ok, RowOk.all ok, RowOk.allPlain ok, RowOk.allD ok, rewritten, RX_cap, RX_copy, altX, roomS, roomC, cutC, copyX, resliceX, appendNewX, extOf, Ext.all, peekX, isOwnRoot, Option.map_some, hw1, hw2, hw3, Nat.zero_le, Nat.sub_zero, deepV, bne_self_eq_false, List.isEmpty_nil, decide_not, List.length_replicate, hlt0, hm1, hm2, hm3, hm4, fs_overlaps_slices_Insert_Load_own, fs_overlaps_slices_Insert_Load_peek, Nat.not_succ_le_self, FinO_ret, FinO_normal, hsz]
    refine fin_own ok ?_
    rw [hr]
    simp [List.take_of_length_le]
  · have hc1 : decide ((i : Int) = (l.length : Int)) = false := decide_eq_false hc
    have hlt : i < l.length := by omega
    simp only [go_sem, Nat.reduceLT, Nat.reduceEqDiff, Nat.reduceAdd, Nat.reduceBEq, Nat.reduceMul, Nat.reduceSub, reduceIte, Nat.reduceLeDiff, reduceCtorEq, Int.reduceNeg, Int.reduceToNat, Int.reduceEq, Int.reduceNe, Int.reduceLT, Int.reduceLE, E_slices_Insert_Load_T, E_slices_Insert_Load_G, hi1, hi2, h10, Nat.le_refl, hp, hf, hpD, RowOk.frzRows ok, RowOk.all ok, RowOk.allPlain ok, RowOk.allD ok, rewritten, RX_cap, RX_copy, altX, roomS, roomC, cutC, copyX, resliceX, appendNewX, extOf, Ext.all, peekX, isOwnRoot, Option.map_some, hw1, hw2, hw3, Nat.zero_le, Nat.sub_zero, deepV, bne_self_eq_false, List.isEmpty_nil, decide_not, List.length_replicate, hlt0, hm1, hm2, hm3, hm4, fs_overlaps_slices_Insert_Load_own, fs_overlaps_slices_Insert_Load_peek, Nat.not_succ_le_self, hc1]
    refine W_cond_dec rfl (fun hk => ?_) (fun hk => ?_)
    · have hk1 : decide (k < l.length + 1) = true := decide_eq_true hk
      have hk2 : k < i + (l.length + 1 - i) := by omega
      have e1 : i + (l.length + 1 - i) = l.length + 1 := by omega
      have hi3 : (i : Int) ≤ ((l.length + 1 : Nat) : Int) := by omega
      have hi4 : i ≤ l.length + 1 := by omega
      obtain ⟨A, hA⟩ : ∃ A, List.map row (List.take i l) ++ List.replicate (l.length + 1 - i) [C.val (Value.int .i64 0), C.val (Value.int .i64 0)] = A := ⟨_, rfl⟩
      have hAp : plainL' A := by rw [← hA]; exact plainL'_append (plainL'_map ok _) (plainL'_vals _ [Value.int .i64 0, Value.int .i64 0] (by simp [Value.oneCell']))
      have hAl : A.length = l.length + 1 := by rw [← hA, List.length_append, List.length_map, hlt0, List.length_replicate]; omega
      obtain ⟨B, hB⟩ : ∃ B, setRows A i [(row x)] = B := ⟨_, rfl⟩
      have hBp : plainL' B := by rw [← hB]; exact plainL'_set hAp ⟨by simp [frzRows, hf], by simp [hpD]⟩
      have hBl : B.length = l.length + 1 := by rw [← hB]; simp [setRows, hAl]; omega
      obtain ⟨D, hD⟩ : ∃ D, setRows B (i + 1) (List.map row (List.drop i l)) = D := ⟨_, rfl⟩
      have hDp : plainL' D := by rw [← hD]; exact plainL'_set hBp (plainL'_map ok _)
      have hDl : D.length = l.length + 1 := by rw [← hD]; simp [setRows, hBl]; omega
      have hDe : D = (l.take i ++ [x] ++ l.drop i).map row := by
        rw [← hD, ← hB, ← hA, List.map_take, List.map_drop, ins_new (A := l.map row) (n := l.length) (by simp) hi2 (by simp)]
        simp
      simp only [go_sem, Nat.reduceLT, Nat.reduceEqDiff, Nat.reduceAdd, Nat.reduceBEq, Nat.reduceMul, Nat.reduceSub, reduceIte, Nat.reduceLeDiff, reduceCtorEq, Int.reduceNeg, Int.reduceToNat, Int.reduceEq, Int.reduceNe, Int.reduceLT, Int.reduceLE, E_slices_Insert_Load_T, E_slices_Insert_Load_G, hi1, hi2, h10, Nat.le_refl, hp, hf, hpD, RowOk.frzRows ok, RowOk.all ok, RowOk.allPlain ok, RowOk.allD ok, rewritten, RX_cap, RX_copy, altX, roomS, roomC, cutC, copyX, resliceX, appendNewX, extOf, Ext.all, peekX, isOwnRoot, Option.map_some, hw1, hw2, hw3, Nat.zero_le, Nat.sub_zero, deepV, bne_self_eq_false, List.isEmpty_nil, decide_not, List.length_replicate, hlt0, hm1, hm2, hm3, hm4, fs_overlaps_slices_Insert_Load_own, fs_overlaps_slices_Insert_Load_peek, Nat.not_succ_le_self, hc1, hk1, hk, hk2, e1, hi3, hi4, hA, hAl, hAp.1, hAp.2, hB, hBp.1, hBp.2, hBl, hD, hDp.1, hDp.2, hsz]
      repeat' ((with_reducible refine and_bar ?_ ?_); kernel_rfl)
      simp only [go_sem, Nat.reduceLT, Nat.reduceEqDiff, Nat.reduceAdd, Nat.reduceBEq, Nat.reduceMul, Nat.reduceSub, reduceIte, Nat.reduceLeDiff, reduceCtorEq, Int.reduceNeg, Int.reduceToNat, Int.reduceEq, Int.reduceNe, Int.reduceLT, Int.reduceLE, E_slices_Insert_Load_T, E_slices_Insert_Load_G, hi1, hi2, h10, Nat.le_refl, hp, hf, hpD, RowOk.frzRows ok, RowOk.all ok, RowOk.allPlain ok, RowOk.allD ok, rewritten, RX_cap, RX_copy, altX, roomS, roomC, cutC, copyX, resliceX, appendNewX, extOf, Ext.all, peekX, isOwnRoot, Option.map_some, hw1, hw2, hw3, Nat.zero_le, Nat.sub_zero, deepV, bne_self_eq_false, List.isEmpty_nil, decide_not, List.length_replicate, hlt0, hm1, hm2, hm3, hm4, fs_overlaps_slices_Insert_Load_own, fs_overlaps_slices_Insert_Load_peek, Nat.not_succ_le_self, FinO_ret, FinO_normal, hDp.1, hDp.2, hD]
      refine fin_own ok ?_
      rw [hr, ← hDe, ← hDl, List.take_length]
    · have hk1 : decide (k < l.length + 1) = false := decide_eq_false hk
      have hk2 : ¬ k < i + (l.length + 1 - i) := by omega
      have hk3 : l.length + 1 ≤ k := by omega
      have e2 : l.length + 1 - l.length = 1 := by omega
      have e3 : l.length ≤ l.length + 1 := by omega
      have hi3 : (i : Int) ≤ ((l.length + 1 : Nat) : Int) := by omega
      have hi4 : i ≤ l.length + 1 := by omega
      have hne : ¬ l.length + 1 - (i + 1) = 0 := by omega
      obtain ⟨A, hA⟩ : ∃ A, List.map row l ++ [[C.dead, C.dead]] = A := ⟨_, rfl⟩
      have hAp : plainL' A := by rw [← hA]; exact plainL'_append (plainL'_map ok _) (plainL'_dead 1 2)
      have hAl : A.length = l.length + 1 := by rw [← hA]; simp
      have hm5 : min (l.length + 1 - i) (l.length + 1 - (i + 1)) = l.length - i := by omega
      obtain ⟨A2, hA2⟩ : ∃ A2, (A.drop i).take (l.length - i) = A2 := ⟨_, rfl⟩
      have hA2e : A2 = List.map row (l.drop i) := by
        rw [← hA2, ← hA, List.drop_append, List.length_map, show i - l.length = 0 by omega, List.drop_zero, List.take_append, List.take_of_length_le (by simp), show l.length - i - (List.drop i (List.map row l)).length = 0 by simp]
        simp [List.map_drop]
      have hA2p : (A2.all fun r => r.all Abs.plainCell) = true := by rw [hA2e]; exact ok.allPlain _
      have hA2f : frzRows A2 = A2 := by rw [hA2e]; exact ok.frzRows _
      have hA2d : plainL' A2 := by rw [hA2e]; exact plainL'_map ok _
      obtain ⟨B, hB⟩ : ∃ B, setRows A (i + 1) A2 = B := ⟨_, rfl⟩
      have hBp : plainL' B := by rw [← hB]; exact plainL'_set hAp hA2d
      have hBl : B.length = l.length + 1 := by rw [← hB]; simp [setRows, hAl, hA2e]; omega
      obtain ⟨D, hD⟩ : ∃ D, setRows B i [(row x)] = D := ⟨_, rfl⟩
      have hDp : plainL' D := by rw [← hD]; exact plainL'_set hBp ⟨by simp [frzRows, hf], by simp [hpD]⟩
      have hDl : D.length = l.length + 1 := by rw [← hD]; simp [setRows, hBl]; omega
      have hDe : D = (l.take i ++ [x] ++ l.drop i).map row := by
        rw [← hD, ← hB, ← hA2, ← hA, ins_here (A := l.map row) (n := l.length) (by simp) hi2]
        simp [List.map_take, List.map_drop]
      simp only [go_sem, Nat.reduceLT, Nat.reduceEqDiff, Nat.reduceAdd, Nat.reduceBEq, Nat.reduceMul, Nat.reduceSub, reduceIte, Nat.reduceLeDiff, reduceCtorEq, Int.reduceNeg, Int.reduceToNat, Int.reduceEq, Int.reduceNe, Int.reduceLT, Int.reduceLE, E_slices_Insert_Load_T, E_slices_Insert_Load_G, hi1, hi2, h10, Nat.le_refl, hp, hf, hpD, RowOk.frzRows ok, RowOk.all ok, RowOk.allPlain ok, RowOk.allD ok, rewritten, RX_cap, RX_copy, altX, roomS, roomC, cutC, copyX, resliceX, appendNewX, extOf, Ext.all, peekX, isOwnRoot, Option.map_some, hw1, hw2, hw3, Nat.zero_le, Nat.sub_zero, deepV, bne_self_eq_false, List.isEmpty_nil, decide_not, List.length_replicate, hlt0, hm1, hm2, hm3, hm4, fs_overlaps_slices_Insert_Load_own, fs_overlaps_slices_Insert_Load_peek, Nat.not_succ_le_self, hc1, hk1, hk, hk2, hk3, e2, e3, hi3, hi4, hne, hA, hAl, hAp.1, hAp.2, hes, hA2, hA2p, hA2f, hB, hBp.1, hBp.2, hBl, hD, hDp.1, hDp.2, hDl, hm5]
      refine W_cond_t rfl ?_
      simp only [go_sem, Nat.reduceLT, Nat.reduceEqDiff, Nat.reduceAdd, Nat.reduceBEq, Nat.reduceMul, Nat.reduceSub, reduceIte, Nat.reduceLeDiff, reduceCtorEq, Int.reduceNeg, Int.reduceToNat, Int.reduceEq, Int.reduceNe, Int.reduceLT, Int.reduceLE, E_slices_Insert_Load_T, E_slices_Insert_Load_G, hi1, hi2, h10, Nat.le_refl, hp, hf, hpD, RowOk.frzRows ok, RowOk.all ok, RowOk.allPlain ok, RowOk.allD ok, rewritten, RX_cap, RX_copy, altX, roomS, roomC, cutC, copyX, resliceX, appendNewX, extOf, Ext.all, peekX, isOwnRoot, Option.map_some, hw1, hw2, hw3, Nat.zero_le, Nat.sub_zero, deepV, bne_self_eq_false, List.isEmpty_nil, decide_not, List.length_replicate, hlt0, hm1, hm2, hm3, hm4, fs_overlaps_slices_Insert_Load_own, fs_overlaps_slices_Insert_Load_peek, Nat.not_succ_le_self, hc1, hk1, hk, hk2, hk3, e2, e3, hi3, hi4, hne, hA, hAl, hAp.1, hAp.2, hes, hA2, hA2p, hA2f, hB, hBp.1, hBp.2, hBl, hD, hDp.1, hDp.2, hDl, hm5]
      repeat' ((with_reducible refine and_bar ?_ ?_); kernel_rfl)
      simp only [go_sem, Nat.reduceLT, Nat.reduceEqDiff, Nat.reduceAdd, Nat.reduceBEq, Nat.reduceMul, Nat.reduceSub, reduceIte, Nat.reduceLeDiff, reduceCtorEq, Int.reduceNeg, Int.reduceToNat, Int.reduceEq, Int.reduceNe, Int.reduceLT, Int.reduceLE, E_slices_Insert_Load_T, E_slices_Insert_Load_G, hi1, hi2, h10, Nat.le_refl, hp, hf, hpD, RowOk.frzRows ok, RowOk.all ok, RowOk.allPlain ok, RowOk.allD ok, rewritten, RX_cap, RX_copy, altX, roomS, roomC, cutC, copyX, resliceX, appendNewX, extOf, Ext.all, peekX, isOwnRoot, Option.map_some, hw1, hw2, hw3, Nat.zero_le, Nat.sub_zero, deepV, bne_self_eq_false, List.isEmpty_nil, decide_not, List.length_replicate, hlt0, hm1, hm2, hm3, hm4, fs_overlaps_slices_Insert_Load_own, fs_overlaps_slices_Insert_Load_peek, Nat.not_succ_le_self, FinO_ret, FinO_normal, hDp.1, hDp.2, hD, hDl]
      refine fin_own ok ?_
      rw [hr, ← hDe, ← hDl, List.take_length]
theorem w_slices_Insert_Load (N : Nat) (a0 : List Load) (a1 : Int) (a2 : List Load) (r : List Load) (h : slices_Insert_Load N a0 a1 a2 = some r) :
    Con Try.prog 43 [true, false, true] false [.sl true none 2 none (a0.map Load.row), .val (.int .i64 a1), .sl true none 2 none (a2.map Load.row)] (.sl true none 2 none (r.map Load.row)) := by
  unfold slices_Insert_Load at h
  obtain ⟨n, x, rfl, rfl, h1, h2, h3⟩ := insM_some h
  exact Con_cap fun k hk1 hk2 => w1_slices_Insert_Load Load.row Load.row_ok a0 n x k r (Option.some.inj h3).symm h1 h2 (by simpa using hk1) hk2
def fso_slices_Insert_Load (N : Nat) : FnS := { own := [true, false, true], pure := false, fn := fun cs => match cs with
  | [c0, c1, c2] => (decO 2 Load.dec c0).bind fun q0 => (decI .i64 c1).bind fun q1 => (decO 2 Load.dec c2).bind fun q2 => (slices_Insert_Load N q0 q1 q2).map fun r => .sl true none 2 none (r.map Load.row)
  | _ => none }
theorem fso_slices_Insert_Load_own (N : Nat) : (fso_slices_Insert_Load N).own = [true, false, true] := rfl
theorem fso_slices_Insert_Load_pure (N : Nat) : (fso_slices_Insert_Load N).pure = false := rfl
theorem fso_slices_Insert_Load_peek (N : Nat) : (fso_slices_Insert_Load N).peek = false := rfl
attribute [go_sem] fso_slices_Insert_Load fso_slices_Insert_Load_own fso_slices_Insert_Load_pure fso_slices_Insert_Load_peek
theorem fso_slices_Insert_Load_ok (N : Nat) : FSOk Try.prog 43 (fso_slices_Insert_Load N) := by
  refine ⟨fun cs r h => ?_, fun h => by cases h⟩
  simp only [fso_slices_Insert_Load] at h
  split at h
  · simp only [Option.bind_eq_some_iff, Option.map_eq_some_iff] at h
    obtain ⟨q0, h0, q1, h1, q2, h2, r', hr, rfl⟩ := h
    exact (w_slices_Insert_Load N q0 q1 q2 r' hr).argsO rfl (argsO_own (decO_ok Load.row_ok Load.dec_le h0) (argsO_le (decI_le h1) (argsO_own (decO_ok Load.row_ok Load.dec_le h2) argsO_nil)))
  · cases h

end Go.Proofs.Ytpbloecedgddlaa
end

section
set_option linter.unusedSimpArgs false
set_option linter.unusedVariables false
set_option maxRecDepth 100000
namespace Go.Proofs.Ytpbloecedgddlaa
open Go Go.Proofs Go.Abs
noncomputable def E_balance_sorted (N : Nat) : Env := { T := tiOf Try.prog, G := fun d f => if d = 30 ∧ f = 43 then some (fso_slices_Insert_Load N) else none }
theorem E_balance_sorted_T (N : Nat) : (E_balance_sorted N).T = tiOf Try.prog := rfl
theorem E_balance_sorted_G0 (N : Nat) : (E_balance_sorted N).G 30 43 = some (fso_slices_Insert_Load N) := rfl
theorem E_balance_sorted_ok (N : Nat) : GOk Try.prog { T := tiOf Try.prog, G := (E_balance_sorted N).G } := by
  intro d f fs hfs
  simp only [E_balance_sorted] at hfs
  by_cases hc : d = 30 ∧ f = 43
  · rw [if_pos hc] at hfs; obtain ⟨rfl, rfl⟩ := hc; obtain rfl := Option.some.inj hfs; exact fso_slices_Insert_Load_ok N
  rw [if_neg hc] at hfs
  cases hfs
theorem fo_balance_sorted : FunOk Try.prog 38 Try.f38 Try.f38.body.get! := ⟨Try.func38, rfl, by decide, by kernel_rfl⟩
attribute [go_sem] E_balance_sorted_T E_balance_sorted_G0
set_option maxHeartbeats 4000000 in
theorem w_balance_sorted (N : Nat) (a0 : (List Load)) (r : (List Load)) (h : balance_sorted N a0 = some r) : Con Try.prog 38 [] true [.sl false none 2 none (a0.map Load.row)] (.sl true none 2 none (r.map Load.row)) := by
  refine fun_ok2 (E := E_balance_sorted N) (tiOf_ok Try.prog _) (E_balance_sorted_ok N) mix fo_balance_sorted (Nat.le_of_ble_eq_true rfl) ?_
  intro _
  rw [entry_tab (by simp)]
  rw [show entryF [] [.sl false none 2 none (a0.map Load.row)] = (updT deadT 0 (.sl false none 2 none (a0.map Load.row))) from by funext t; match t with | 0 => rfl | t + 1 => rfl]
  apply W_start
  simp only [Try.f38, Option.get!, R0_RZ]
  unfold balance_sorted at h
  simp (config := { maxSteps := 4000000 }) only [go_sem, Nat.reduceLT, Nat.reduceEqDiff, Nat.reduceAdd, Nat.reduceBEq, Nat.reduceMul, Nat.reduceSub, reduceIte, Nat.reduceLeDiff, reduceCtorEq, Int.reduceNeg, Int.reduceToNat, Int.reduceEq, Int.reduceNe, Int.reduceLT, Int.reduceLE]
  repeat' ((with_reducible refine and_bar ?_ ?_); kernel_rfl)
  refine W_real fun hreal2 => ?_
  have hl1 := hreal2.lenT 0 (by decide) (by simp only [go_sem, Nat.reduceLT, Nat.reduceEqDiff, Nat.reduceAdd, Nat.reduceBEq, Nat.reduceMul, Nat.reduceSub, reduceIte, Nat.reduceLeDiff, reduceCtorEq, Int.reduceNeg, Int.reduceToNat, Int.reduceEq, Int.reduceNe, Int.reduceLT, Int.reduceLE, Bool.or_self, List.length_set, Int.natCast_zero, Int.cast_ofNat_Int]; rfl)
  rw [List.length_map] at hl1
  refine W_range (fun (v3 : Nat) (b : List Load) => ⟨tab 38 (updT (updT (updT (updT deadT 3 (.pal 35 [] 0 b.length none)) 7 (.sl false none 2 none (a0.map Load.row))) 8 (.val (.int .i64 ((a0.length : Nat) : Int)))) 9 (.val (.int .i64 ((v3 : Nat) : Int)))), (upd RZ 35 (.sl true none 2 none (b.map Load.row)))⟩) [] h ?_ ?_
  · refine Weak.trans (weak_adopt 3 35 2 (by simp only [go_sem, Nat.reduceLT, Nat.reduceEqDiff, Nat.reduceAdd, Nat.reduceBEq, Nat.reduceMul, Nat.reduceSub, reduceIte, Nat.reduceLeDiff, reduceCtorEq, Int.reduceNeg, Int.reduceToNat, Int.reduceEq, Int.reduceNe, Int.reduceLT, Int.reduceLE, Bool.or_self, List.length_set, Int.natCast_zero, Int.cast_ofNat_Int]) (by simp only [go_sem, Nat.reduceLT, Nat.reduceEqDiff, Nat.reduceAdd, Nat.reduceBEq, Nat.reduceMul, Nat.reduceSub, reduceIte, Nat.reduceLeDiff, reduceCtorEq, Int.reduceNeg, Int.reduceToNat, Int.reduceEq, Int.reduceNe, Int.reduceLT, Int.reduceLE, Bool.or_self, List.length_set, Int.natCast_zero, Int.cast_ofNat_Int])) ?_
    refine weak_roots ?_ ?_
    · (repeat' (first | exact weakX_nil | refine weakX_cons ?_ ?_)) <;> (first | rfl | simp only [go_sem, Nat.reduceLT, Nat.reduceEqDiff, Nat.reduceAdd, Nat.reduceBEq, Nat.reduceMul, Nat.reduceSub, reduceIte, Nat.reduceLeDiff, reduceCtorEq, Int.reduceNeg, Int.reduceToNat, Int.reduceEq, Int.reduceNe, Int.reduceLT, Int.reduceLE, Bool.or_self, List.length_set, Int.natCast_zero, Int.cast_ofNat_Int])
    · (repeat' (first | exact weakR_nil | refine weakR_cons ?_ ?_ ?_)) <;> (first | rfl | simp only [go_sem, Nat.reduceLT, Nat.reduceEqDiff, Nat.reduceAdd, Nat.reduceBEq, Nat.reduceMul, Nat.reduceSub, reduceIte, Nat.reduceLeDiff, reduceCtorEq, Int.reduceNeg, Int.reduceToNat, Int.reduceEq, Int.reduceNe, Int.reduceLT, Int.reduceLE, Bool.or_self, List.length_set, Int.natCast_zero, Int.cast_ofNat_Int])
  · rintro v3 l2 hi3 h -
    rcases drop_cases a0 v3 hi3 with ⟨x6, hi3', hx4, hd6⟩ | ⟨hi3', _, hd6⟩
    · rw [hd6] at h
      simp only [balance_sorted_L1] at h
      have hw5 := wrap_succ hi3' hl1
      simp (config := { maxSteps := 4000000 }) only [go_sem, Nat.reduceLT, Nat.reduceEqDiff, Nat.reduceAdd, Nat.reduceBEq, Nat.reduceMul, Nat.reduceSub, reduceIte, Nat.reduceLeDiff, reduceCtorEq, Int.reduceNeg, Int.reduceToNat, Int.reduceEq, Int.reduceNe, Int.reduceLT, Int.reduceLE, hx4, hi3', hw5]
      repeat' ((with_reducible refine and_bar ?_ ?_); kernel_rfl)
      refine W_cond_t rfl ?_
      simp (config := { maxSteps := 4000000 }) only [go_sem, Nat.reduceLT, Nat.reduceEqDiff, Nat.reduceAdd, Nat.reduceBEq, Nat.reduceMul, Nat.reduceSub, reduceIte, Nat.reduceLeDiff, reduceCtorEq, Int.reduceNeg, Int.reduceToNat, Int.reduceEq, Int.reduceNe, Int.reduceLT, Int.reduceLE, hx4, hi3', hw5]
      repeat' ((with_reducible refine and_bar ?_ ?_); kernel_rfl)
      refine W_real fun hreal8 => ?_
      have hl7 := hreal8.lenX 35 (by simp only [go_sem, Nat.reduceLT, Nat.reduceEqDiff, Nat.reduceAdd, Nat.reduceBEq, Nat.reduceMul, Nat.reduceSub, reduceIte, Nat.reduceLeDiff, reduceCtorEq, Int.reduceNeg, Int.reduceToNat, Int.reduceEq, Int.reduceNe, Int.reduceLT, Int.reduceLE, Bool.or_self, List.length_set, Int.natCast_zero, Int.cast_ofNat_Int, hx4, hi3', hw5]; rfl)
      rw [List.length_map] at hl7
      refine W_range (fun (v10 : Nat) (b : Unit) => ⟨tab 38 (updT (updT (updT (updT (updT (updT (updT deadT 3 (.pal 35 [] 0 l2.length none)) 5 (.pref 5 [] 0 0)) 7 (.sl false none 2 none (a0.map Load.row))) 8 (.val (.int .i64 ((a0.length : Nat) : Int)))) 9 (.val (.int .i64 ((v3 : Nat) : Int)))) 14 (.val (.int .i64 ((l2.length : Nat) : Int)))) 15 (.val (.int .i64 ((v10 : Nat) : Int)))), (upd (upd RZ 5 (.sl true none 2 (some 1) [[.val (.int .i64 x6.Member), .val (.int .i64 x6.Actors)]])) 35 (.sl true none 2 none (l2.map Load.row)))⟩) () h ?_ ?_
      · refine weak_roots ?_ ?_
        · (repeat' (first | exact weakX_nil | refine weakX_cons ?_ ?_)) <;> (first | rfl | simp only [go_sem, Nat.reduceLT, Nat.reduceEqDiff, Nat.reduceAdd, Nat.reduceBEq, Nat.reduceMul, Nat.reduceSub, reduceIte, Nat.reduceLeDiff, reduceCtorEq, Int.reduceNeg, Int.reduceToNat, Int.reduceEq, Int.reduceNe, Int.reduceLT, Int.reduceLE, Bool.or_self, List.length_set, Int.natCast_zero, Int.cast_ofNat_Int, hx4, hi3', hw5])
        · (repeat' (first | exact weakR_nil | refine weakR_cons ?_ ?_ ?_)) <;> (first | rfl | simp only [go_sem, Nat.reduceLT, Nat.reduceEqDiff, Nat.reduceAdd, Nat.reduceBEq, Nat.reduceMul, Nat.reduceSub, reduceIte, Nat.reduceLeDiff, reduceCtorEq, Int.reduceNeg, Int.reduceToNat, Int.reduceEq, Int.reduceNe, Int.reduceLT, Int.reduceLE, Bool.or_self, List.length_set, Int.natCast_zero, Int.cast_ofNat_Int, hx4, hi3', hw5])
      · rintro v10 ⟨⟩ hi9 h -
        rcases drop_cases l2 v10 hi9 with ⟨x13, hi9', hx10, hd12⟩ | ⟨hi9', _, hd12⟩
        · rw [hd12] at h
          simp only [balance_sorted_L2] at h
          have hw11 := wrap_succ hi9' hl7
          simp (config := { maxSteps := 4000000 }) only [go_sem, Nat.reduceLT, Nat.reduceEqDiff, Nat.reduceAdd, Nat.reduceBEq, Nat.reduceMul, Nat.reduceSub, reduceIte, Nat.reduceLeDiff, reduceCtorEq, Int.reduceNeg, Int.reduceToNat, Int.reduceEq, Int.reduceNe, Int.reduceLT, Int.reduceLE, hx4, hi3', hw5, hx10, hi9', hw11]
          repeat' ((with_reducible refine and_bar ?_ ?_); kernel_rfl)
          refine W_cond_t rfl ?_
          simp (config := { maxSteps := 4000000 }) only [go_sem, Nat.reduceLT, Nat.reduceEqDiff, Nat.reduceAdd, Nat.reduceBEq, Nat.reduceMul, Nat.reduceSub, reduceIte, Nat.reduceLeDiff, reduceCtorEq, Int.reduceNeg, Int.reduceToNat, Int.reduceEq, Int.reduceNe, Int.reduceLT, Int.reduceLE, hx4, hi3', hw5, hx10, hi9', hw11]
          repeat' ((with_reducible refine and_bar ?_ ?_); kernel_rfl)
          refine W_cond_dec rfl (fun hc13 => ?_) (fun hc13 => ?_)
          · have hc13d := decide_eq_true hc13
            first | rw [if_pos hc13] at h | rw [if_pos hc13d] at h | simp only [hc13d, Bool.not_true, Bool.not_false, Bool.false_eq_true, if_true, if_false] at h
            obtain ⟨r1, hr14, h⟩ := Option.bind_eq_some_iff.1 h
            simp (config := { maxSteps := 4000000 }) only [go_sem, Nat.reduceLT, Nat.reduceEqDiff, Nat.reduceAdd, Nat.reduceBEq, Nat.reduceMul, Nat.reduceSub, reduceIte, Nat.reduceLeDiff, reduceCtorEq, Int.reduceNeg, Int.reduceToNat, Int.reduceEq, Int.reduceNe, Int.reduceLT, Int.reduceLE, hx4, hi3', hw5, hx10, hi9', hw11, hc13d, hr14]
            repeat' ((with_reducible refine and_bar ?_ ?_); kernel_rfl)
            first | refine ⟨r1, ?_, h⟩ | refine ⟨hi3', r1, ?_, h⟩
            refine Weak.trans (weak_rename 3 30 35 (by decide) (by decide) (by simp only [go_sem, Nat.reduceLT, Nat.reduceEqDiff, Nat.reduceAdd, Nat.reduceBEq, Nat.reduceMul, Nat.reduceSub, reduceIte, Nat.reduceLeDiff, reduceCtorEq, Int.reduceNeg, Int.reduceToNat, Int.reduceEq, Int.reduceNe, Int.reduceLT, Int.reduceLE, Bool.or_self, List.length_set, Int.natCast_zero, Int.cast_ofNat_Int, hx4, hi3', hw5, hx10, hi9', hw11, hc13d, hr14]) (by simp only [go_sem, Nat.reduceLT, Nat.reduceEqDiff, Nat.reduceAdd, Nat.reduceBEq, Nat.reduceMul, Nat.reduceSub, reduceIte, Nat.reduceLeDiff, reduceCtorEq, Int.reduceNeg, Int.reduceToNat, Int.reduceEq, Int.reduceNe, Int.reduceLT, Int.reduceLE, Bool.or_self, List.length_set, Int.natCast_zero, Int.cast_ofNat_Int, hx4, hi3', hw5, hx10, hi9', hw11, hc13d, hr14]; rfl) (by simp only [go_sem, Nat.reduceLT, Nat.reduceEqDiff, Nat.reduceAdd, Nat.reduceBEq, Nat.reduceMul, Nat.reduceSub, reduceIte, Nat.reduceLeDiff, reduceCtorEq, Int.reduceNeg, Int.reduceToNat, Int.reduceEq, Int.reduceNe, Int.reduceLT, Int.reduceLE, Bool.or_self, List.length_set, Int.natCast_zero, Int.cast_ofNat_Int, hx4, hi3', hw5, hx10, hi9', hw11, hc13d, hr14]; rfl) (by simp)) ?_
            refine weak_roots ?_ ?_
            · (repeat' (first | exact weakX_nil | refine weakX_cons ?_ ?_)) <;> (first | rfl | simp only [go_sem, Nat.reduceLT, Nat.reduceEqDiff, Nat.reduceAdd, Nat.reduceBEq, Nat.reduceMul, Nat.reduceSub, reduceIte, Nat.reduceLeDiff, reduceCtorEq, Int.reduceNeg, Int.reduceToNat, Int.reduceEq, Int.reduceNe, Int.reduceLT, Int.reduceLE, Bool.or_self, List.length_set, Int.natCast_zero, Int.cast_ofNat_Int, hx4, hi3', hw5, hx10, hi9', hw11, hc13d, hr14])
            · (repeat' (first | exact weakR_nil | refine weakR_cons ?_ ?_ ?_)) <;> (first | rfl | simp only [go_sem, Nat.reduceLT, Nat.reduceEqDiff, Nat.reduceAdd, Nat.reduceBEq, Nat.reduceMul, Nat.reduceSub, reduceIte, Nat.reduceLeDiff, reduceCtorEq, Int.reduceNeg, Int.reduceToNat, Int.reduceEq, Int.reduceNe, Int.reduceLT, Int.reduceLE, Bool.or_self, List.length_set, Int.natCast_zero, Int.cast_ofNat_Int, hx4, hi3', hw5, hx10, hi9', hw11, hc13d, hr14])
          · have hc13d := decide_eq_false hc13
            first | rw [if_neg hc13] at h | rw [if_neg (ne_true_of_eq_false hc13d)] at h | simp only [hc13d, Bool.not_true, Bool.not_false, Bool.false_eq_true, if_true, if_false] at h
            simp (config := { maxSteps := 4000000 }) only [go_sem, Nat.reduceLT, Nat.reduceEqDiff, Nat.reduceAdd, Nat.reduceBEq, Nat.reduceMul, Nat.reduceSub, reduceIte, Nat.reduceLeDiff, reduceCtorEq, Int.reduceNeg, Int.reduceToNat, Int.reduceEq, Int.reduceNe, Int.reduceLT, Int.reduceLE, hx4, hi3', hw5, hx10, hi9', hw11, hc13d]
            repeat' ((with_reducible refine and_bar ?_ ?_); kernel_rfl)
            first | refine ⟨(), ?_, h⟩ | refine ⟨hi9', (), ?_, h⟩
            refine weak_roots ?_ ?_
            · (repeat' (first | exact weakX_nil | refine weakX_cons ?_ ?_)) <;> (first | rfl | simp only [go_sem, Nat.reduceLT, Nat.reduceEqDiff, Nat.reduceAdd, Nat.reduceBEq, Nat.reduceMul, Nat.reduceSub, reduceIte, Nat.reduceLeDiff, reduceCtorEq, Int.reduceNeg, Int.reduceToNat, Int.reduceEq, Int.reduceNe, Int.reduceLT, Int.reduceLE, Bool.or_self, List.length_set, Int.natCast_zero, Int.cast_ofNat_Int, hx4, hi3', hw5, hx10, hi9', hw11, hc13d])
            · (repeat' (first | exact weakR_nil | refine weakR_cons ?_ ?_ ?_)) <;> (first | rfl | simp only [go_sem, Nat.reduceLT, Nat.reduceEqDiff, Nat.reduceAdd, Nat.reduceBEq, Nat.reduceMul, Nat.reduceSub, reduceIte, Nat.reduceLeDiff, reduceCtorEq, Int.reduceNeg, Int.reduceToNat, Int.reduceEq, Int.reduceNe, Int.reduceLT, Int.reduceLE, Bool.or_self, List.length_set, Int.natCast_zero, Int.cast_ofNat_Int, hx4, hi3', hw5, hx10, hi9', hw11, hc13d])
        · rw [hd12] at h
          simp only [balance_sorted_L2] at h
          simp (config := { maxSteps := 4000000 }) only [go_sem, Nat.reduceLT, Nat.reduceEqDiff, Nat.reduceAdd, Nat.reduceBEq, Nat.reduceMul, Nat.reduceSub, reduceIte, Nat.reduceLeDiff, reduceCtorEq, Int.reduceNeg, Int.reduceToNat, Int.reduceEq, Int.reduceNe, Int.reduceLT, Int.reduceLE, hx4, hi3', hw5, hi9']
          repeat' ((with_reducible refine and_bar ?_ ?_); kernel_rfl)
          refine W_cond_f rfl ?_
          unfold balance_sorted_J1 at h
          obtain ⟨ha15, h⟩ := apx_some h
          simp only [List.length_cons, List.length_nil, Nat.zero_add, Nat.add_zero, Nat.reduceAdd] at ha15
          simp (config := { maxSteps := 4000000 }) only [go_sem, Nat.reduceLT, Nat.reduceEqDiff, Nat.reduceAdd, Nat.reduceBEq, Nat.reduceMul, Nat.reduceSub, reduceIte, Nat.reduceLeDiff, reduceCtorEq, Int.reduceNeg, Int.reduceToNat, Int.reduceEq, Int.reduceNe, Int.reduceLT, Int.reduceLE, hx4, hi3', hw5, hi9', ha15]
          repeat' ((with_reducible refine and_bar ?_ ?_); kernel_rfl)
          first | refine ⟨(l2 ++ [x6]), ?_, h⟩ | refine ⟨hi3', (l2 ++ [x6]), ?_, h⟩
          refine weak_roots ?_ ?_
          · (repeat' (first | exact weakX_nil | refine weakX_cons ?_ ?_)) <;> (first | rfl | simp only [go_sem, Nat.reduceLT, Nat.reduceEqDiff, Nat.reduceAdd, Nat.reduceBEq, Nat.reduceMul, Nat.reduceSub, reduceIte, Nat.reduceLeDiff, reduceCtorEq, Int.reduceNeg, Int.reduceToNat, Int.reduceEq, Int.reduceNe, Int.reduceLT, Int.reduceLE, Bool.or_self, List.length_set, Int.natCast_zero, Int.cast_ofNat_Int, hx4, hi3', hw5, hi9', ha15])
          · (repeat' (first | exact weakR_nil | refine weakR_cons ?_ ?_ ?_)) <;> (first | rfl | simp only [go_sem, Nat.reduceLT, Nat.reduceEqDiff, Nat.reduceAdd, Nat.reduceBEq, Nat.reduceMul, Nat.reduceSub, reduceIte, Nat.reduceLeDiff, reduceCtorEq, Int.reduceNeg, Int.reduceToNat, Int.reduceEq, Int.reduceNe, Int.reduceLT, Int.reduceLE, Bool.or_self, List.length_set, Int.natCast_zero, Int.cast_ofNat_Int, hx4, hi3', hw5, hi9', ha15])
    · rw [hd6] at h
      simp only [balance_sorted_L1] at h
      simp (config := { maxSteps := 4000000 }) only [go_sem, Nat.reduceLT, Nat.reduceEqDiff, Nat.reduceAdd, Nat.reduceBEq, Nat.reduceMul, Nat.reduceSub, reduceIte, Nat.reduceLeDiff, reduceCtorEq, Int.reduceNeg, Int.reduceToNat, Int.reduceEq, Int.reduceNe, Int.reduceLT, Int.reduceLE, hi3']
      repeat' ((with_reducible refine and_bar ?_ ?_); kernel_rfl)
      refine W_cond_f rfl ?_
      simp (config := { maxSteps := 4000000 }) only [go_sem, Nat.reduceLT, Nat.reduceEqDiff, Nat.reduceAdd, Nat.reduceBEq, Nat.reduceMul, Nat.reduceSub, reduceIte, Nat.reduceLeDiff, reduceCtorEq, Int.reduceNeg, Int.reduceToNat, Int.reduceEq, Int.reduceNe, Int.reduceLT, Int.reduceLE, hi3', FinW_ret]
      repeat' ((with_reducible refine and_bar ?_ ?_); kernel_rfl)
      obtain rfl := Option.some.inj h
      exact ⟨_, rfl, (by repeat' (first | exact ROk.refl _ | exact ROk.nil _ | ((refine ROk.of _ ?_ ?_); (focus ((repeat' (first | exact Le.refl _ | exact LeL.nil | exact Le.nils | exact LeLL.refl _ | refine LeLL.mapAppend ?_ ?_ | refine LeLL.cons ?_ ?_ | refine Le.sl ?_ | refine Le.tup ?_ | refine Le.agg ?_ | refine LeL.cons ?_ ?_)); done)); (focus ((repeat' (first | exact NoOwn.val _ | exact NoOwn.sl _ _ _ _ | refine NoOwn.tup ?_ | refine NoOwn.agg ?_ | exact noOwn_nil | refine noOwn_cons ?_ ?_)); done))) | ((refine ROk.own ?_ ?_); (focus ((repeat' (first | exact Le.refl _ | exact LeL.nil | exact Le.nils | exact LeLL.refl _ | refine LeLL.mapAppend ?_ ?_ | refine LeLL.cons ?_ ?_ | refine Le.sl ?_ | refine Le.tup ?_ | refine Le.agg ?_ | refine LeL.cons ?_ ?_)); done)); (focus ((first | exact RowOk.noOwn Load.row_ok _); done))) | refine ROk.agg rfl ?_ | refine ROk.tup rfl ?_ | exact rok_nil | refine rok_cons ?_ ?_)), (by (repeat' (first | exact PureC.val _ | refine PureC.tup ?_ | refine PureC.agg ?_ | exact pure_nil | refine pure_cons ?_ ?_ | refine PureC.sl ?_ | exact pure_rows Load.row_pure _ |  exact pure_rows_nil | refine pure_rows_append ?_ ?_ | refine pure_rows_cons ?_ ?_)))⟩
def fs_balance_sorted (N : Nat) : FnS := { own := [], pure := true, fn := fun cs => match cs with
  | [c0] => ((decL 2 Load.dec) c0).bind fun qc0 => (balance_sorted N qc0).map fun r => .sl false none 2 none (r.map Load.row)
  | _ => none }
theorem fs_balance_sorted_own (N : Nat) : (fs_balance_sorted N).own = [] := rfl
theorem fs_balance_sorted_pure (N : Nat) : (fs_balance_sorted N).pure = true := rfl
attribute [go_sem] fs_balance_sorted fs_balance_sorted_own fs_balance_sorted_pure
theorem fs_balance_sorted_ok (N : Nat) : FSOk Try.prog 38 (fs_balance_sorted N) := by
  refine ⟨fun cs r h => ?_, fun h => by cases h⟩
  simp only [fs_balance_sorted] at h
  split at h
  · simp only [Option.bind_eq_some_iff, Option.map_eq_some_iff] at h
    obtain ⟨q0, h0, r', hr, rfl⟩ := h
    exact (((w_balance_sorted N q0 r' hr).args (LeL.cons (decL_le Load.dec_le h0) (LeL.nil))).res (by repeat' (first | exact ROk.refl _ | exact ROk.nil _ | ((refine ROk.of _ ?_ ?_); (focus ((repeat' (first | exact Le.refl _ | exact LeL.nil | exact Le.nils | exact LeLL.refl _ | refine LeLL.mapAppend ?_ ?_ | refine LeLL.cons ?_ ?_ | refine Le.sl ?_ | refine Le.tup ?_ | refine Le.agg ?_ | refine LeL.cons ?_ ?_)); done)); (focus ((repeat' (first | exact NoOwn.val _ | exact NoOwn.sl _ _ _ _ | refine NoOwn.tup ?_ | refine NoOwn.agg ?_ | exact noOwn_nil | refine noOwn_cons ?_ ?_)); done))) | ((refine ROk.own ?_ ?_); (focus ((repeat' (first | exact Le.refl _ | exact LeL.nil | exact Le.nils | exact LeLL.refl _ | refine LeLL.mapAppend ?_ ?_ | refine LeLL.cons ?_ ?_ | refine Le.sl ?_ | refine Le.tup ?_ | refine Le.agg ?_ | refine LeL.cons ?_ ?_)); done)); (focus ((first | exact RowOk.noOwn Load.row_ok _); done))) | refine ROk.agg rfl ?_ | refine ROk.tup rfl ?_ | exact rok_nil | refine rok_cons ?_ ?_)))
  · cases h

def fso_balance_sorted (N : Nat) : FnS := { own := [], pure := true, fn := fun cs => match cs with
  | [c0] => ((decL 2 Load.dec) c0).bind fun qc0 => (balance_sorted N qc0).map fun r => .sl true none 2 none (r.map Load.row)
  | _ => none }
theorem fso_balance_sorted_own (N : Nat) : (fso_balance_sorted N).own = [] := rfl
theorem fso_balance_sorted_pure (N : Nat) : (fso_balance_sorted N).pure = true := rfl
attribute [go_sem] fso_balance_sorted fso_balance_sorted_own fso_balance_sorted_pure
theorem fso_balance_sorted_ok (N : Nat) : FSOk Try.prog 38 (fso_balance_sorted N) := by
  refine ⟨fun cs r h => ?_, fun h => by cases h⟩
  simp only [fso_balance_sorted] at h
  split at h
  · simp only [Option.bind_eq_some_iff, Option.map_eq_some_iff] at h
    obtain ⟨q0, h0, r', hr, rfl⟩ := h
    exact ((w_balance_sorted N q0 r' hr).args (LeL.cons (decL_le Load.dec_le h0) (LeL.nil)))
  · cases h

end Go.Proofs.Ytpbloecedgddlaa
end

section
set_option linter.unusedSimpArgs false
set_option linter.unusedVariables false
set_option maxRecDepth 100000
namespace Go.Proofs.Ytpbloecedgddlaa
open Go Go.Proofs Go.Abs
noncomputable def E_balance_Needed (N : Nat) : Env := { T := tiOf Try.prog, G := fun d f => if d = 10 ∧ f = 14 then some (fs_balance_Valid N) else if d = 13 ∧ f = 22 then some (fs_balance_Total N) else if d = 18 ∧ f = 22 then some (fs_balance_Total N) else if d = 23 ∧ f = 38 then some (fs_balance_sorted N) else none }
theorem E_balance_Needed_T (N : Nat) : (E_balance_Needed N).T = tiOf Try.prog := rfl
theorem E_balance_Needed_G0 (N : Nat) : (E_balance_Needed N).G 10 14 = some (fs_balance_Valid N) := rfl
theorem E_balance_Needed_G1 (N : Nat) : (E_balance_Needed N).G 13 22 = some (fs_balance_Total N) := rfl
theorem E_balance_Needed_G2 (N : Nat) : (E_balance_Needed N).G 18 22 = some (fs_balance_Total N) := rfl
theorem E_balance_Needed_G3 (N : Nat) : (E_balance_Needed N).G 23 38 = some (fs_balance_sorted N) := rfl
theorem E_balance_Needed_ok (N : Nat) : GOk Try.prog { T := tiOf Try.prog, G := (E_balance_Needed N).G } := by
  intro d f fs hfs
  simp only [E_balance_Needed] at hfs
  by_cases hc : d = 10 ∧ f = 14
  · rw [if_pos hc] at hfs; obtain ⟨rfl, rfl⟩ := hc; obtain rfl := Option.some.inj hfs; exact fs_balance_Valid_ok N
  rw [if_neg hc] at hfs
  by_cases hc : d = 13 ∧ f = 22
  · rw [if_pos hc] at hfs; obtain ⟨rfl, rfl⟩ := hc; obtain rfl := Option.some.inj hfs; exact fs_balance_Total_ok N
  rw [if_neg hc] at hfs
  by_cases hc : d = 18 ∧ f = 22
  · rw [if_pos hc] at hfs; obtain ⟨rfl, rfl⟩ := hc; obtain rfl := Option.some.inj hfs; exact fs_balance_Total_ok N
  rw [if_neg hc] at hfs
  by_cases hc : d = 23 ∧ f = 38
  · rw [if_pos hc] at hfs; obtain ⟨rfl, rfl⟩ := hc; obtain rfl := Option.some.inj hfs; exact fs_balance_sorted_ok N
  rw [if_neg hc] at hfs
  cases hfs
theorem fo_balance_Needed : FunOk Try.prog 24 Try.f24 Try.f24.body.get! := ⟨Try.func24, rfl, by decide, by kernel_rfl⟩
attribute [go_sem] E_balance_Needed_T E_balance_Needed_G0 E_balance_Needed_G1 E_balance_Needed_G2 E_balance_Needed_G3
set_option maxHeartbeats 4000000 in
theorem w_balance_Needed (N : Nat) (a0 : (List Load)) (r : Int) (h : balance_Needed N a0 = some r) : Con Try.prog 24 [] true [.sl false none 2 none (a0.map Load.row)] (.val (.int .i64 r)) := by
  refine fun_ok2 (E := E_balance_Needed N) (tiOf_ok Try.prog _) (E_balance_Needed_ok N) mix fo_balance_Needed (Nat.le_of_ble_eq_true rfl) ?_
  intro _
  rw [entry_tab (by simp)]
  rw [show entryF [] [.sl false none 2 none (a0.map Load.row)] = (updT deadT 0 (.sl false none 2 none (a0.map Load.row))) from by funext t; match t with | 0 => rfl | t + 1 => rfl]
  apply W_start
  simp only [Try.f24, Option.get!, R0_RZ]
  unfold balance_Needed at h
  obtain ⟨r1, hr1, h⟩ := Option.bind_eq_some_iff.1 h
  simp (config := { maxSteps := 4000000 }) only [go_sem, Nat.reduceLT, Nat.reduceEqDiff, Nat.reduceAdd, Nat.reduceBEq, Nat.reduceMul, Nat.reduceSub, reduceIte, Nat.reduceLeDiff, reduceCtorEq, Int.reduceNeg, Int.reduceToNat, Int.reduceEq, Int.reduceNe, Int.reduceLT, Int.reduceLE, hr1]
  repeat' ((with_reducible refine and_bar ?_ ?_); kernel_rfl)
  refine W_cond_nbool rfl (fun hc2 => ?_) (fun hc2 => ?_)
  · first | rw [if_neg (ne_true_of_eq_false hc2)] at h | simp only [hc2, Bool.or_false, Bool.or_true, Bool.false_or, Bool.true_or, Bool.and_true, Bool.true_and, Bool.and_false, Bool.false_and, Bool.not_true, Bool.not_false, Bool.false_eq_true, if_true, if_false] at h
    simp (config := { maxSteps := 4000000 }) only [go_sem, Nat.reduceLT, Nat.reduceEqDiff, Nat.reduceAdd, Nat.reduceBEq, Nat.reduceMul, Nat.reduceSub, reduceIte, Nat.reduceLeDiff, reduceCtorEq, Int.reduceNeg, Int.reduceToNat, Int.reduceEq, Int.reduceNe, Int.reduceLT, Int.reduceLE, hr1, hc2, FinW_ret]
    repeat' ((with_reducible refine and_bar ?_ ?_); kernel_rfl)
    obtain rfl := Option.some.inj h
    exact ⟨_, rfl, (by exact ROk.refl _), (by repeat' (first | exact PureC.val _ | refine PureC.tup ?_ | refine PureC.agg ?_ | exact pure_nil | refine pure_cons ?_ ?_))⟩
  · first | rw [if_pos hc2] at h | simp only [hc2, Bool.or_false, Bool.or_true, Bool.false_or, Bool.true_or, Bool.and_true, Bool.true_and, Bool.and_false, Bool.false_and, Bool.not_true, Bool.not_false, Bool.false_eq_true, if_true, if_false] at h
    obtain ⟨r2, hr3, h⟩ := Option.bind_eq_some_iff.1 h
    obtain ⟨hd4, h⟩ := dvx_some h
    obtain ⟨r3, hr5, h⟩ := Option.bind_eq_some_iff.1 h
    obtain rfl := Option.some.inj (hr3.symm.trans hr5)
    obtain ⟨hd6, h⟩ := dvx_some h
    obtain ⟨r4, hr7, h⟩ := Option.bind_eq_some_iff.1 h
    simp (config := { maxSteps := 4000000 }) only [go_sem, Nat.reduceLT, Nat.reduceEqDiff, Nat.reduceAdd, Nat.reduceBEq, Nat.reduceMul, Nat.reduceSub, reduceIte, Nat.reduceLeDiff, reduceCtorEq, Int.reduceNeg, Int.reduceToNat, Int.reduceEq, Int.reduceNe, Int.reduceLT, Int.reduceLE, hr1, hc2, hr3, hd4, hd6, hr7]
    repeat' ((with_reducible refine and_bar ?_ ?_); kernel_rfl)
    refine W_real fun hreal9 => ?_
    have hl8 := hreal9.lenT 23 (by decide) (by simp only [go_sem, Nat.reduceLT, Nat.reduceEqDiff, Nat.reduceAdd, Nat.reduceBEq, Nat.reduceMul, Nat.reduceSub, reduceIte, Nat.reduceLeDiff, reduceCtorEq, Int.reduceNeg, Int.reduceToNat, Int.reduceEq, Int.reduceNe, Int.reduceLT, Int.reduceLE, Bool.or_self, List.length_set, Int.natCast_zero, Int.cast_ofNat_Int, hr1, hc2, hr3, hd4, hd6, hr7]; rfl)
    rw [List.length_map] at hl8
    refine W_range (fun (v8 : Nat) (b : Int) => ⟨tab 45 (updT (updT (updT (updT (updT (updT deadT 3 (.val (.int .i64 (IntKind.i64.wrap (Int.tdiv r2 ((a0.length : Nat) : Int)))))) 4 (.val (.int .i64 (Int.tmod r2 ((a0.length : Nat) : Int))))) 5 (.val (.int .i64 b))) 23 (.sl false none 2 none (r4.map Load.row))) 24 (.val (.int .i64 ((r4.length : Nat) : Int)))) 25 (.val (.int .i64 ((v8 : Nat) : Int)))), RZ⟩) 0 h ?_ ?_
    · refine weak_roots ?_ ?_
      · (repeat' (first | exact weakX_nil | refine weakX_cons ?_ ?_)) <;> (first | rfl | simp only [go_sem, Nat.reduceLT, Nat.reduceEqDiff, Nat.reduceAdd, Nat.reduceBEq, Nat.reduceMul, Nat.reduceSub, reduceIte, Nat.reduceLeDiff, reduceCtorEq, Int.reduceNeg, Int.reduceToNat, Int.reduceEq, Int.reduceNe, Int.reduceLT, Int.reduceLE, Bool.or_self, List.length_set, Int.natCast_zero, Int.cast_ofNat_Int, hr1, hc2, hr3, hd4, hd6, hr7])
      · (repeat' (first | exact weakR_nil | refine weakR_cons ?_ ?_ ?_)) <;> (first | rfl | simp only [go_sem, Nat.reduceLT, Nat.reduceEqDiff, Nat.reduceAdd, Nat.reduceBEq, Nat.reduceMul, Nat.reduceSub, reduceIte, Nat.reduceLeDiff, reduceCtorEq, Int.reduceNeg, Int.reduceToNat, Int.reduceEq, Int.reduceNe, Int.reduceLT, Int.reduceLE, Bool.or_self, List.length_set, Int.natCast_zero, Int.cast_ofNat_Int, hr1, hc2, hr3, hd4, hd6, hr7])
    · rintro v8 v7 hi10 h -
      rcases drop_cases r4 v8 hi10 with ⟨x11, hi10', hx11, hd13⟩ | ⟨hi10', _, hd13⟩
      · rw [hd13] at h
        simp only [balance_Needed_L1] at h
        have hw12 := wrap_succ hi10' hl8
        simp (config := { maxSteps := 4000000 }) only [go_sem, Nat.reduceLT, Nat.reduceEqDiff, Nat.reduceAdd, Nat.reduceBEq, Nat.reduceMul, Nat.reduceSub, reduceIte, Nat.reduceLeDiff, reduceCtorEq, Int.reduceNeg, Int.reduceToNat, Int.reduceEq, Int.reduceNe, Int.reduceLT, Int.reduceLE, hr1, hc2, hr3, hd4, hd6, hr7, hx11, hi10', hw12]
        repeat' ((with_reducible refine and_bar ?_ ?_); kernel_rfl)
        refine W_cond_t rfl ?_
        simp (config := { maxSteps := 4000000 }) only [go_sem, Nat.reduceLT, Nat.reduceEqDiff, Nat.reduceAdd, Nat.reduceBEq, Nat.reduceMul, Nat.reduceSub, reduceIte, Nat.reduceLeDiff, reduceCtorEq, Int.reduceNeg, Int.reduceToNat, Int.reduceEq, Int.reduceNe, Int.reduceLT, Int.reduceLE, hr1, hc2, hr3, hd4, hd6, hr7, hx11, hi10', hw12]
        repeat' ((with_reducible refine and_bar ?_ ?_); kernel_rfl)
        refine W_cond_dec rfl (fun hc14 => ?_) (fun hc14 => ?_)
        · have hc14d := decide_eq_true hc14
          first | rw [if_pos hc14] at h | rw [if_pos hc14d] at h | simp only [hc14d, Bool.not_true, Bool.not_false, Bool.false_eq_true, if_true, if_false] at h
          unfold balance_Needed_J1 at h
          simp (config := { maxSteps := 4000000 }) only [go_sem, Nat.reduceLT, Nat.reduceEqDiff, Nat.reduceAdd, Nat.reduceBEq, Nat.reduceMul, Nat.reduceSub, reduceIte, Nat.reduceLeDiff, reduceCtorEq, Int.reduceNeg, Int.reduceToNat, Int.reduceEq, Int.reduceNe, Int.reduceLT, Int.reduceLE, hr1, hc2, hr3, hd4, hd6, hr7, hx11, hi10', hw12, hc14d]
          repeat' ((with_reducible refine and_bar ?_ ?_); kernel_rfl)
          first | refine ⟨(IntKind.i64.wrap (v7 + (if (IntKind.i64.wrap (x11.Actors - (IntKind.i64.wrap ((IntKind.i64.wrap (Int.tdiv r2 ((a0.length : Nat) : Int))) + 1)))) > 0 then IntKind.i64.wrap (x11.Actors - (IntKind.i64.wrap ((IntKind.i64.wrap (Int.tdiv r2 ((a0.length : Nat) : Int))) + 1))) else 0))), ?_, h⟩ | refine ⟨hi10', (IntKind.i64.wrap (v7 + (if (IntKind.i64.wrap (x11.Actors - (IntKind.i64.wrap ((IntKind.i64.wrap (Int.tdiv r2 ((a0.length : Nat) : Int))) + 1)))) > 0 then IntKind.i64.wrap (x11.Actors - (IntKind.i64.wrap ((IntKind.i64.wrap (Int.tdiv r2 ((a0.length : Nat) : Int))) + 1))) else 0))), ?_, h⟩
          refine weak_roots ?_ ?_
          · (repeat' (first | exact weakX_nil | refine weakX_cons ?_ ?_)) <;> (first | rfl | simp only [go_sem, Nat.reduceLT, Nat.reduceEqDiff, Nat.reduceAdd, Nat.reduceBEq, Nat.reduceMul, Nat.reduceSub, reduceIte, Nat.reduceLeDiff, reduceCtorEq, Int.reduceNeg, Int.reduceToNat, Int.reduceEq, Int.reduceNe, Int.reduceLT, Int.reduceLE, Bool.or_self, List.length_set, Int.natCast_zero, Int.cast_ofNat_Int, hr1, hc2, hr3, hd4, hd6, hr7, hx11, hi10', hw12, hc14d])
          · (repeat' (first | exact weakR_nil | refine weakR_cons ?_ ?_ ?_)) <;> (first | rfl | simp only [go_sem, Nat.reduceLT, Nat.reduceEqDiff, Nat.reduceAdd, Nat.reduceBEq, Nat.reduceMul, Nat.reduceSub, reduceIte, Nat.reduceLeDiff, reduceCtorEq, Int.reduceNeg, Int.reduceToNat, Int.reduceEq, Int.reduceNe, Int.reduceLT, Int.reduceLE, Bool.or_self, List.length_set, Int.natCast_zero, Int.cast_ofNat_Int, hr1, hc2, hr3, hd4, hd6, hr7, hx11, hi10', hw12, hc14d])
        · have hc14d := decide_eq_false hc14
          first | rw [if_neg hc14] at h | rw [if_neg (ne_true_of_eq_false hc14d)] at h | simp only [hc14d, Bool.not_true, Bool.not_false, Bool.false_eq_true, if_true, if_false] at h
          unfold balance_Needed_J1 at h
          simp (config := { maxSteps := 4000000 }) only [go_sem, Nat.reduceLT, Nat.reduceEqDiff, Nat.reduceAdd, Nat.reduceBEq, Nat.reduceMul, Nat.reduceSub, reduceIte, Nat.reduceLeDiff, reduceCtorEq, Int.reduceNeg, Int.reduceToNat, Int.reduceEq, Int.reduceNe, Int.reduceLT, Int.reduceLE, hr1, hc2, hr3, hd4, hd6, hr7, hx11, hi10', hw12, hc14d]
          repeat' ((with_reducible refine and_bar ?_ ?_); kernel_rfl)
          first | refine ⟨(IntKind.i64.wrap (v7 + (if (IntKind.i64.wrap (x11.Actors - (IntKind.i64.wrap (Int.tdiv r2 ((a0.length : Nat) : Int))))) > 0 then IntKind.i64.wrap (x11.Actors - (IntKind.i64.wrap (Int.tdiv r2 ((a0.length : Nat) : Int)))) else 0))), ?_, h⟩ | refine ⟨hi10', (IntKind.i64.wrap (v7 + (if (IntKind.i64.wrap (x11.Actors - (IntKind.i64.wrap (Int.tdiv r2 ((a0.length : Nat) : Int))))) > 0 then IntKind.i64.wrap (x11.Actors - (IntKind.i64.wrap (Int.tdiv r2 ((a0.length : Nat) : Int)))) else 0))), ?_, h⟩
          refine weak_roots ?_ ?_
          · (repeat' (first | exact weakX_nil | refine weakX_cons ?_ ?_)) <;> (first | rfl | simp only [go_sem, Nat.reduceLT, Nat.reduceEqDiff, Nat.reduceAdd, Nat.reduceBEq, Nat.reduceMul, Nat.reduceSub, reduceIte, Nat.reduceLeDiff, reduceCtorEq, Int.reduceNeg, Int.reduceToNat, Int.reduceEq, Int.reduceNe, Int.reduceLT, Int.reduceLE, Bool.or_self, List.length_set, Int.natCast_zero, Int.cast_ofNat_Int, hr1, hc2, hr3, hd4, hd6, hr7, hx11, hi10', hw12, hc14d])
          · (repeat' (first | exact weakR_nil | refine weakR_cons ?_ ?_ ?_)) <;> (first | rfl | simp only [go_sem, Nat.reduceLT, Nat.reduceEqDiff, Nat.reduceAdd, Nat.reduceBEq, Nat.reduceMul, Nat.reduceSub, reduceIte, Nat.reduceLeDiff, reduceCtorEq, Int.reduceNeg, Int.reduceToNat, Int.reduceEq, Int.reduceNe, Int.reduceLT, Int.reduceLE, Bool.or_self, List.length_set, Int.natCast_zero, Int.cast_ofNat_Int, hr1, hc2, hr3, hd4, hd6, hr7, hx11, hi10', hw12, hc14d])
      · rw [hd13] at h
        simp only [balance_Needed_L1] at h
        simp (config := { maxSteps := 4000000 }) only [go_sem, Nat.reduceLT, Nat.reduceEqDiff, Nat.reduceAdd, Nat.reduceBEq, Nat.reduceMul, Nat.reduceSub, reduceIte, Nat.reduceLeDiff, reduceCtorEq, Int.reduceNeg, Int.reduceToNat, Int.reduceEq, Int.reduceNe, Int.reduceLT, Int.reduceLE, hr1, hc2, hr3, hd4, hd6, hr7, hi10']
        repeat' ((with_reducible refine and_bar ?_ ?_); kernel_rfl)
        refine W_cond_f rfl ?_
        simp (config := { maxSteps := 4000000 }) only [go_sem, Nat.reduceLT, Nat.reduceEqDiff, Nat.reduceAdd, Nat.reduceBEq, Nat.reduceMul, Nat.reduceSub, reduceIte, Nat.reduceLeDiff, reduceCtorEq, Int.reduceNeg, Int.reduceToNat, Int.reduceEq, Int.reduceNe, Int.reduceLT, Int.reduceLE, hr1, hc2, hr3, hd4, hd6, hr7, hi10', FinW_ret]
        repeat' ((with_reducible refine and_bar ?_ ?_); kernel_rfl)
        obtain rfl := Option.some.inj h
        exact ⟨_, rfl, (by exact ROk.refl _), (by repeat' (first | exact PureC.val _ | refine PureC.tup ?_ | refine PureC.agg ?_ | exact pure_nil | refine pure_cons ?_ ?_))⟩
def fs_balance_Needed (N : Nat) : FnS := { own := [], pure := true, fn := fun cs => match cs with
  | [c0] => ((decL 2 Load.dec) c0).bind fun qc0 => (balance_Needed N qc0).map fun r => .val (.int .i64 r)
  | _ => none }
theorem fs_balance_Needed_own (N : Nat) : (fs_balance_Needed N).own = [] := rfl
theorem fs_balance_Needed_pure (N : Nat) : (fs_balance_Needed N).pure = true := rfl
attribute [go_sem] fs_balance_Needed fs_balance_Needed_own fs_balance_Needed_pure
theorem fs_balance_Needed_ok (N : Nat) : FSOk Try.prog 24 (fs_balance_Needed N) := by
  refine ⟨fun cs r h => ?_, fun h => by cases h⟩
  simp only [fs_balance_Needed] at h
  split at h
  · simp only [Option.bind_eq_some_iff, Option.map_eq_some_iff] at h
    obtain ⟨q0, h0, r', hr, rfl⟩ := h
    exact ((w_balance_Needed N q0 r' hr).args (LeL.cons (decL_le Load.dec_le h0) (LeL.nil)))
  · cases h

end Go.Proofs.Ytpbloecedgddlaa
end

section
set_option linter.unusedSimpArgs false
set_option linter.unusedVariables false
set_option maxRecDepth 100000
namespace Go.Proofs.Ytpbloecedgddlaa
open Go Go.Proofs Go.Abs
noncomputable def E_balance_Spread (N : Nat) : Env := { T := tiOf Try.prog, G := fun d f => if d = 6 ∧ f = 14 then some (fs_balance_Valid N) else if d = 10 ∧ f = 30 then some (fs_balance_extremes N) else none }
theorem E_balance_Spread_T (N : Nat) : (E_balance_Spread N).T = tiOf Try.prog := rfl
theorem E_balance_Spread_G0 (N : Nat) : (E_balance_Spread N).G 6 14 = some (fs_balance_Valid N) := rfl
theorem E_balance_Spread_G1 (N : Nat) : (E_balance_Spread N).G 10 30 = some (fs_balance_extremes N) := rfl
theorem E_balance_Spread_ok (N : Nat) : GOk Try.prog { T := tiOf Try.prog, G := (E_balance_Spread N).G } := by
  intro d f fs hfs
  simp only [E_balance_Spread] at hfs
  by_cases hc : d = 6 ∧ f = 14
  · rw [if_pos hc] at hfs; obtain ⟨rfl, rfl⟩ := hc; obtain rfl := Option.some.inj hfs; exact fs_balance_Valid_ok N
  rw [if_neg hc] at hfs
  by_cases hc : d = 10 ∧ f = 30
  · rw [if_pos hc] at hfs; obtain ⟨rfl, rfl⟩ := hc; obtain rfl := Option.some.inj hfs; exact fs_balance_extremes_ok N
  rw [if_neg hc] at hfs
  cases hfs
theorem fo_balance_Spread : FunOk Try.prog 20 Try.f20 Try.f20.body.get! := ⟨Try.func20, rfl, by decide, by kernel_rfl⟩
attribute [go_sem] E_balance_Spread_T E_balance_Spread_G0 E_balance_Spread_G1
set_option maxHeartbeats 4000000 in
theorem w_balance_Spread (N : Nat) (a0 : (List Load)) (r : Int) (h : balance_Spread N a0 = some r) : Con Try.prog 20 [] true [.sl false none 2 none (a0.map Load.row)] (.val (.int .i64 r)) := by
  refine fun_ok2 (E := E_balance_Spread N) (tiOf_ok Try.prog _) (E_balance_Spread_ok N) mix fo_balance_Spread (Nat.le_of_ble_eq_true rfl) ?_
  intro _
  rw [entry_tab (by simp)]
  rw [show entryF [] [.sl false none 2 none (a0.map Load.row)] = (updT deadT 0 (.sl false none 2 none (a0.map Load.row))) from by funext t; match t with | 0 => rfl | t + 1 => rfl]
  apply W_start
  simp only [Try.f20, Option.get!, R0_RZ]
  unfold balance_Spread at h
  obtain ⟨r1, hr1, h⟩ := Option.bind_eq_some_iff.1 h
  simp (config := { maxSteps := 4000000 }) only [go_sem, Nat.reduceLT, Nat.reduceEqDiff, Nat.reduceAdd, Nat.reduceBEq, Nat.reduceMul, Nat.reduceSub, reduceIte, Nat.reduceLeDiff, reduceCtorEq, Int.reduceNeg, Int.reduceToNat, Int.reduceEq, Int.reduceNe, Int.reduceLT, Int.reduceLE, hr1]
  repeat' ((with_reducible refine and_bar ?_ ?_); kernel_rfl)
  refine W_cond_nbool rfl (fun hc2 => ?_) (fun hc2 => ?_)
  · first | rw [if_neg (ne_true_of_eq_false hc2)] at h | simp only [hc2, Bool.or_false, Bool.or_true, Bool.false_or, Bool.true_or, Bool.and_true, Bool.true_and, Bool.and_false, Bool.false_and, Bool.not_true, Bool.not_false, Bool.false_eq_true, if_true, if_false] at h
    simp (config := { maxSteps := 4000000 }) only [go_sem, Nat.reduceLT, Nat.reduceEqDiff, Nat.reduceAdd, Nat.reduceBEq, Nat.reduceMul, Nat.reduceSub, reduceIte, Nat.reduceLeDiff, reduceCtorEq, Int.reduceNeg, Int.reduceToNat, Int.reduceEq, Int.reduceNe, Int.reduceLT, Int.reduceLE, hr1, hc2, FinW_ret]
    repeat' ((with_reducible refine and_bar ?_ ?_); kernel_rfl)
    obtain rfl := Option.some.inj h
    exact ⟨_, rfl, (by exact ROk.refl _), (by repeat' (first | exact PureC.val _ | refine PureC.tup ?_ | refine PureC.agg ?_ | exact pure_nil | refine pure_cons ?_ ?_))⟩
  · first | rw [if_pos hc2] at h | simp only [hc2, Bool.or_false, Bool.or_true, Bool.false_or, Bool.true_or, Bool.and_true, Bool.true_and, Bool.and_false, Bool.false_and, Bool.not_true, Bool.not_false, Bool.false_eq_true, if_true, if_false] at h
    obtain ⟨r2, hr3, h⟩ := Option.bind_eq_some_iff.1 h
    obtain ⟨x3, hb4, hx5, h⟩ := gx_some h
    obtain ⟨x4, hb6, hx7, h⟩ := gx_some h
    simp (config := { maxSteps := 4000000 }) only [go_sem, Nat.reduceLT, Nat.reduceEqDiff, Nat.reduceAdd, Nat.reduceBEq, Nat.reduceMul, Nat.reduceSub, reduceIte, Nat.reduceLeDiff, reduceCtorEq, Int.reduceNeg, Int.reduceToNat, Int.reduceEq, Int.reduceNe, Int.reduceLT, Int.reduceLE, hr1, hc2, hr3, hb4, hx5, hb6, hx7, FinW_ret]
    repeat' ((with_reducible refine and_bar ?_ ?_); kernel_rfl)
    obtain rfl := Option.some.inj h
    exact ⟨_, rfl, (by exact ROk.refl _), (by repeat' (first | exact PureC.val _ | refine PureC.tup ?_ | refine PureC.agg ?_ | exact pure_nil | refine pure_cons ?_ ?_))⟩
def fs_balance_Spread (N : Nat) : FnS := { own := [], pure := true, fn := fun cs => match cs with
  | [c0] => ((decL 2 Load.dec) c0).bind fun qc0 => (balance_Spread N qc0).map fun r => .val (.int .i64 r)
  | _ => none }
theorem fs_balance_Spread_own (N : Nat) : (fs_balance_Spread N).own = [] := rfl
theorem fs_balance_Spread_pure (N : Nat) : (fs_balance_Spread N).pure = true := rfl
attribute [go_sem] fs_balance_Spread fs_balance_Spread_own fs_balance_Spread_pure
theorem fs_balance_Spread_ok (N : Nat) : FSOk Try.prog 20 (fs_balance_Spread N) := by
  refine ⟨fun cs r h => ?_, fun h => by cases h⟩
  simp only [fs_balance_Spread] at h
  split at h
  · simp only [Option.bind_eq_some_iff, Option.map_eq_some_iff] at h
    obtain ⟨q0, h0, r', hr, rfl⟩ := h
    exact ((w_balance_Spread N q0 r' hr).args (LeL.cons (decL_le Load.dec_le h0) (LeL.nil)))
  · cases h

end Go.Proofs.Ytpbloecedgddlaa
end

section
set_option linter.unusedSimpArgs false
set_option linter.unusedVariables false
set_option maxRecDepth 100000
namespace Go.Proofs.Ytpbloecedgddlaa
open Go Go.Proofs Go.Abs
noncomputable def E_balance_Least (N : Nat) : Env := { T := tiOf Try.prog, G := fun d f => if d = 6 ∧ f = 14 then some (fs_balance_Valid N) else if d = 10 ∧ f = 30 then some (fs_balance_extremes N) else none }
theorem E_balance_Least_T (N : Nat) : (E_balance_Least N).T = tiOf Try.prog := rfl
theorem E_balance_Least_G0 (N : Nat) : (E_balance_Least N).G 6 14 = some (fs_balance_Valid N) := rfl
theorem E_balance_Least_G1 (N : Nat) : (E_balance_Least N).G 10 30 = some (fs_balance_extremes N) := rfl
theorem E_balance_Least_ok (N : Nat) : GOk Try.prog { T := tiOf Try.prog, G := (E_balance_Least N).G } := by
  intro d f fs hfs
  simp only [E_balance_Least] at hfs
  by_cases hc : d = 6 ∧ f = 14
  · rw [if_pos hc] at hfs; obtain ⟨rfl, rfl⟩ := hc; obtain rfl := Option.some.inj hfs; exact fs_balance_Valid_ok N
  rw [if_neg hc] at hfs
  by_cases hc : d = 10 ∧ f = 30
  · rw [if_pos hc] at hfs; obtain ⟨rfl, rfl⟩ := hc; obtain rfl := Option.some.inj hfs; exact fs_balance_extremes_ok N
  rw [if_neg hc] at hfs
  cases hfs
theorem fo_balance_Least : FunOk Try.prog 16 Try.f16 Try.f16.body.get! := ⟨Try.func16, rfl, by decide, by kernel_rfl⟩
attribute [go_sem] E_balance_Least_T E_balance_Least_G0 E_balance_Least_G1
set_option maxHeartbeats 4000000 in
theorem w_balance_Least (N : Nat) (a0 : (List Load)) (r : Int) (h : balance_Least N a0 = some r) : Con Try.prog 16 [] true [.sl false none 2 none (a0.map Load.row)] (.val (.int .i64 r)) := by
  refine fun_ok2 (E := E_balance_Least N) (tiOf_ok Try.prog _) (E_balance_Least_ok N) mix fo_balance_Least (Nat.le_of_ble_eq_true rfl) ?_
  intro _
  rw [entry_tab (by simp)]
  rw [show entryF [] [.sl false none 2 none (a0.map Load.row)] = (updT deadT 0 (.sl false none 2 none (a0.map Load.row))) from by funext t; match t with | 0 => rfl | t + 1 => rfl]
  apply W_start
  simp only [Try.f16, Option.get!, R0_RZ]
  unfold balance_Least at h
  obtain ⟨r1, hr1, h⟩ := Option.bind_eq_some_iff.1 h
  simp (config := { maxSteps := 4000000 }) only [go_sem, Nat.reduceLT, Nat.reduceEqDiff, Nat.reduceAdd, Nat.reduceBEq, Nat.reduceMul, Nat.reduceSub, reduceIte, Nat.reduceLeDiff, reduceCtorEq, Int.reduceNeg, Int.reduceToNat, Int.reduceEq, Int.reduceNe, Int.reduceLT, Int.reduceLE, hr1]
  refine W_cond_nbool rfl (fun hc2 => ?_) (fun hc2 => ?_)
  · first | rw [if_neg (ne_true_of_eq_false hc2)] at h | simp only [hc2, Bool.or_false, Bool.or_true, Bool.false_or, Bool.true_or, Bool.and_true, Bool.true_and, Bool.and_false, Bool.false_and, Bool.not_true, Bool.not_false, Bool.false_eq_true, if_true, if_false] at h
    simp (config := { maxSteps := 4000000 }) only [go_sem, Nat.reduceLT, Nat.reduceEqDiff, Nat.reduceAdd, Nat.reduceBEq, Nat.reduceMul, Nat.reduceSub, reduceIte, Nat.reduceLeDiff, reduceCtorEq, Int.reduceNeg, Int.reduceToNat, Int.reduceEq, Int.reduceNe, Int.reduceLT, Int.reduceLE, hr1, hc2, FinW_ret]
    obtain rfl := Option.some.inj h
    exact ⟨_, rfl, (by exact ROk.refl _), (by repeat' (first | exact PureC.val _ | refine PureC.tup ?_ | refine PureC.agg ?_ | exact pure_nil | refine pure_cons ?_ ?_))⟩
  · first | rw [if_pos hc2] at h | simp only [hc2, Bool.or_false, Bool.or_true, Bool.false_or, Bool.true_or, Bool.and_true, Bool.true_and, Bool.and_false, Bool.false_and, Bool.not_true, Bool.not_false, Bool.false_eq_true, if_true, if_false] at h
    obtain ⟨r2, hr3, h⟩ := Option.bind_eq_some_iff.1 h
    obtain ⟨x3, hb4, hx5, h⟩ := gx_some h
    simp (config := { maxSteps := 4000000 }) only [go_sem, Nat.reduceLT, Nat.reduceEqDiff, Nat.reduceAdd, Nat.reduceBEq, Nat.reduceMul, Nat.reduceSub, reduceIte, Nat.reduceLeDiff, reduceCtorEq, Int.reduceNeg, Int.reduceToNat, Int.reduceEq, Int.reduceNe, Int.reduceLT, Int.reduceLE, hr1, hc2, hr3, hb4, hx5, FinW_ret]
    obtain rfl := Option.some.inj h
    exact ⟨_, rfl, (by exact ROk.refl _), (by repeat' (first | exact PureC.val _ | refine PureC.tup ?_ | refine PureC.agg ?_ | exact pure_nil | refine pure_cons ?_ ?_))⟩
def fs_balance_Least (N : Nat) : FnS := { own := [], pure := true, fn := fun cs => match cs with
  | [c0] => ((decL 2 Load.dec) c0).bind fun qc0 => (balance_Least N qc0).map fun r => .val (.int .i64 r)
  | _ => none }
theorem fs_balance_Least_own (N : Nat) : (fs_balance_Least N).own = [] := rfl
theorem fs_balance_Least_pure (N : Nat) : (fs_balance_Least N).pure = true := rfl
attribute [go_sem] fs_balance_Least fs_balance_Least_own fs_balance_Least_pure
theorem fs_balance_Least_ok (N : Nat) : FSOk Try.prog 16 (fs_balance_Least N) := by
  refine ⟨fun cs r h => ?_, fun h => by cases h⟩
  simp only [fs_balance_Least] at h
  split at h
  · simp only [Option.bind_eq_some_iff, Option.map_eq_some_iff] at h
    obtain ⟨q0, h0, r', hr, rfl⟩ := h
    exact ((w_balance_Least N q0 r' hr).args (LeL.cons (decL_le Load.dec_le h0) (LeL.nil)))
  · cases h

end Go.Proofs.Ytpbloecedgddlaa
end

section
set_option linter.unusedSimpArgs false
set_option linter.unusedVariables false
set_option maxRecDepth 100000
namespace Go.Proofs.Ytpbloecedgddlaa
open Go Go.Proofs Go.Abs
noncomputable def E_balance_Most (N : Nat) : Env := { T := tiOf Try.prog, G := fun d f => if d = 6 ∧ f = 14 then some (fs_balance_Valid N) else if d = 10 ∧ f = 30 then some (fs_balance_extremes N) else none }
theorem E_balance_Most_T (N : Nat) : (E_balance_Most N).T = tiOf Try.prog := rfl
theorem E_balance_Most_G0 (N : Nat) : (E_balance_Most N).G 6 14 = some (fs_balance_Valid N) := rfl
theorem E_balance_Most_G1 (N : Nat) : (E_balance_Most N).G 10 30 = some (fs_balance_extremes N) := rfl
theorem E_balance_Most_ok (N : Nat) : GOk Try.prog { T := tiOf Try.prog, G := (E_balance_Most N).G } := by
  intro d f fs hfs
  simp only [E_balance_Most] at hfs
  by_cases hc : d = 6 ∧ f = 14
  · rw [if_pos hc] at hfs; obtain ⟨rfl, rfl⟩ := hc; obtain rfl := Option.some.inj hfs; exact fs_balance_Valid_ok N
  rw [if_neg hc] at hfs
  by_cases hc : d = 10 ∧ f = 30
  · rw [if_pos hc] at hfs; obtain ⟨rfl, rfl⟩ := hc; obtain rfl := Option.some.inj hfs; exact fs_balance_extremes_ok N
  rw [if_neg hc] at hfs
  cases hfs
theorem fo_balance_Most : FunOk Try.prog 18 Try.f18 Try.f18.body.get! := ⟨Try.func18, rfl, by decide, by kernel_rfl⟩
attribute [go_sem] E_balance_Most_T E_balance_Most_G0 E_balance_Most_G1
set_option maxHeartbeats 4000000 in
theorem w_balance_Most (N : Nat) (a0 : (List Load)) (r : Int) (h : balance_Most N a0 = some r) : Con Try.prog 18 [] true [.sl false none 2 none (a0.map Load.row)] (.val (.int .i64 r)) := by
  refine fun_ok2 (E := E_balance_Most N) (tiOf_ok Try.prog _) (E_balance_Most_ok N) mix fo_balance_Most (Nat.le_of_ble_eq_true rfl) ?_
  intro _
  rw [entry_tab (by simp)]
  rw [show entryF [] [.sl false none 2 none (a0.map Load.row)] = (updT deadT 0 (.sl false none 2 none (a0.map Load.row))) from by funext t; match t with | 0 => rfl | t + 1 => rfl]
  apply W_start
  simp only [Try.f18, Option.get!, R0_RZ]
  unfold balance_Most at h
  obtain ⟨r1, hr1, h⟩ := Option.bind_eq_some_iff.1 h
  simp (config := { maxSteps := 4000000 }) only [go_sem, Nat.reduceLT, Nat.reduceEqDiff, Nat.reduceAdd, Nat.reduceBEq, Nat.reduceMul, Nat.reduceSub, reduceIte, Nat.reduceLeDiff, reduceCtorEq, Int.reduceNeg, Int.reduceToNat, Int.reduceEq, Int.reduceNe, Int.reduceLT, Int.reduceLE, hr1]
  refine W_cond_nbool rfl (fun hc2 => ?_) (fun hc2 => ?_)
  · first | rw [if_neg (ne_true_of_eq_false hc2)] at h | simp only [hc2, Bool.or_false, Bool.or_true, Bool.false_or, Bool.true_or, Bool.and_true, Bool.true_and, Bool.and_false, Bool.false_and, Bool.not_true, Bool.not_false, Bool.false_eq_true, if_true, if_false] at h
    simp (config := { maxSteps := 4000000 }) only [go_sem, Nat.reduceLT, Nat.reduceEqDiff, Nat.reduceAdd, Nat.reduceBEq, Nat.reduceMul, Nat.reduceSub, reduceIte, Nat.reduceLeDiff, reduceCtorEq, Int.reduceNeg, Int.reduceToNat, Int.reduceEq, Int.reduceNe, Int.reduceLT, Int.reduceLE, hr1, hc2, FinW_ret]
    obtain rfl := Option.some.inj h
    exact ⟨_, rfl, (by exact ROk.refl _), (by repeat' (first | exact PureC.val _ | refine PureC.tup ?_ | refine PureC.agg ?_ | exact pure_nil | refine pure_cons ?_ ?_))⟩
  · first | rw [if_pos hc2] at h | simp only [hc2, Bool.or_false, Bool.or_true, Bool.false_or, Bool.true_or, Bool.and_true, Bool.true_and, Bool.and_false, Bool.false_and, Bool.not_true, Bool.not_false, Bool.false_eq_true, if_true, if_false] at h
    obtain ⟨r2, hr3, h⟩ := Option.bind_eq_some_iff.1 h
    obtain ⟨x3, hb4, hx5, h⟩ := gx_some h
    simp (config := { maxSteps := 4000000 }) only [go_sem, Nat.reduceLT, Nat.reduceEqDiff, Nat.reduceAdd, Nat.reduceBEq, Nat.reduceMul, Nat.reduceSub, reduceIte, Nat.reduceLeDiff, reduceCtorEq, Int.reduceNeg, Int.reduceToNat, Int.reduceEq, Int.reduceNe, Int.reduceLT, Int.reduceLE, hr1, hc2, hr3, hb4, hx5, FinW_ret]
    obtain rfl := Option.some.inj h
    exact ⟨_, rfl, (by exact ROk.refl _), (by repeat' (first | exact PureC.val _ | refine PureC.tup ?_ | refine PureC.agg ?_ | exact pure_nil | refine pure_cons ?_ ?_))⟩
def fs_balance_Most (N : Nat) : FnS := { own := [], pure := true, fn := fun cs => match cs with
  | [c0] => ((decL 2 Load.dec) c0).bind fun qc0 => (balance_Most N qc0).map fun r => .val (.int .i64 r)
  | _ => none }
theorem fs_balance_Most_own (N : Nat) : (fs_balance_Most N).own = [] := rfl
theorem fs_balance_Most_pure (N : Nat) : (fs_balance_Most N).pure = true := rfl
attribute [go_sem] fs_balance_Most fs_balance_Most_own fs_balance_Most_pure
theorem fs_balance_Most_ok (N : Nat) : FSOk Try.prog 18 (fs_balance_Most N) := by
  refine ⟨fun cs r h => ?_, fun h => by cases h⟩
  simp only [fs_balance_Most] at h
  split at h
  · simp only [Option.bind_eq_some_iff, Option.map_eq_some_iff] at h
    obtain ⟨q0, h0, r', hr, rfl⟩ := h
    exact ((w_balance_Most N q0 r' hr).args (LeL.cons (decL_le Load.dec_le h0) (LeL.nil)))
  · cases h

end Go.Proofs.Ytpbloecedgddlaa
end

section
set_option linter.unusedSimpArgs false
set_option linter.unusedVariables false
set_option maxRecDepth 100000
namespace Go.Proofs.Ytpbloecedgddlaa
open Go Go.Proofs Go.Abs
noncomputable def E_balance_index_1 (N : Nat) : Env := { T := tiOf Try.prog, G := fun d f => none }
theorem E_balance_index_1_T (N : Nat) : (E_balance_index_1 N).T = tiOf Try.prog := rfl
theorem E_balance_index_1_ok (N : Nat) : GOk Try.prog { T := tiOf Try.prog, G := (E_balance_index_1 N).G } := by
  intro d f fs hfs
  cases hfs
theorem fo_balance_index_1 : FunOk Try.prog 40 Try.f40 Try.f40.body.get! := ⟨Try.func40, rfl, by decide, by kernel_rfl⟩
attribute [go_sem] E_balance_index_1_T
set_option maxHeartbeats 4000000 in
theorem w_balance_index_1 (N : Nat) (a0 : Load) (c0_0 : Int) (r : Bool) (h : balance_index_1 N a0 c0_0 = some r) : Con Try.prog 40 [] true [.agg [.val (.int .i64 a0.Member), .val (.int .i64 a0.Actors)], .iref 1 [[.val (.int .i64 c0_0)]] 0 0] (.val (.bool r)) := by
  refine fun_ok2 (E := E_balance_index_1 N) (tiOf_ok Try.prog _) (E_balance_index_1_ok N) mix fo_balance_index_1 (Nat.le_of_ble_eq_true rfl) ?_
  intro _
  rw [entry_tab (by simp)]
  rw [show entryF [] [.agg [.val (.int .i64 a0.Member), .val (.int .i64 a0.Actors)], .iref 1 [[.val (.int .i64 c0_0)]] 0 0] = (updT (updT deadT 0 (.agg [.val (.int .i64 a0.Member), .val (.int .i64 a0.Actors)])) 1 (.iref 1 [[.val (.int .i64 c0_0)]] 0 0)) from by funext t; match t with | 0 => rfl | 1 => rfl | t + 2 => rfl]
  apply W_start
  simp only [Try.f40, Option.get!, R0_RZ]
  unfold balance_index_1 at h
  simp (config := { maxSteps := 4000000 }) only [go_sem, Nat.reduceLT, Nat.reduceEqDiff, Nat.reduceAdd, Nat.reduceBEq, Nat.reduceMul, Nat.reduceSub, reduceIte, Nat.reduceLeDiff, reduceCtorEq, Int.reduceNeg, Int.reduceToNat, Int.reduceEq, Int.reduceNe, Int.reduceLT, Int.reduceLE, FinW_ret]
  obtain rfl := Option.some.inj h
  exact ⟨_, rfl, (by exact ROk.refl _), (by repeat' (first | exact PureC.val _ | refine PureC.tup ?_ | refine PureC.agg ?_ | exact pure_nil | refine pure_cons ?_ ?_))⟩
def fs_balance_index_1 (N : Nat) : FnS := { own := [], pure := true, fn := fun cs => match cs with
  | [c0, .iref 1 [[c1_0]] 0 0] => (Load.decA c0).bind fun qc0 => ((decI .i64) c1_0).bind fun qc1_0 => (balance_index_1 N qc0 qc1_0).map fun r => .val (.bool r)
  | _ => none }
theorem fs_balance_index_1_own (N : Nat) : (fs_balance_index_1 N).own = [] := rfl
theorem fs_balance_index_1_pure (N : Nat) : (fs_balance_index_1 N).pure = true := rfl
attribute [go_sem] fs_balance_index_1 fs_balance_index_1_own fs_balance_index_1_pure
theorem fs_balance_index_1_ok (N : Nat) : FSOk Try.prog 40 (fs_balance_index_1 N) := by
  refine ⟨fun cs r h => ?_, fun h => by cases h⟩
  simp only [fs_balance_index_1] at h
  split at h
  · simp only [Option.bind_eq_some_iff, Option.map_eq_some_iff] at h
    obtain ⟨q0, h0, q1, h1, r', hr, rfl⟩ := h
    exact ((w_balance_index_1 N q0 q1 r' hr).args (LeL.cons (Load.decA_le h0) (LeL.cons (Le.iref1 (LeL.cons (decI_le h1) (LeL.nil))) (LeL.nil))))
  · cases h

end Go.Proofs.Ytpbloecedgddlaa
end

section
set_option linter.unusedSimpArgs false
set_option linter.unusedVariables false
set_option maxRecDepth 100000
namespace Go.Proofs.Ytpbloecedgddlaa
open Go Go.Proofs Go.Abs
noncomputable def E_slices_IndexFunc_Load_balance_index_1 (N : Nat) : Env := { T := tiOf Try.prog, G := fun d f => if d = 16 ∧ f = 40 then some (fs_balance_index_1 N) else none }
theorem E_slices_IndexFunc_Load_balance_index_1_T (N : Nat) : (E_slices_IndexFunc_Load_balance_index_1 N).T = tiOf Try.prog := rfl
theorem E_slices_IndexFunc_Load_balance_index_1_G0 (N : Nat) : (E_slices_IndexFunc_Load_balance_index_1 N).G 16 40 = some (fs_balance_index_1 N) := rfl
theorem E_slices_IndexFunc_Load_balance_index_1_ok (N : Nat) : GOk Try.prog { T := tiOf Try.prog, G := (E_slices_IndexFunc_Load_balance_index_1 N).G } := by
  intro d f fs hfs
  simp only [E_slices_IndexFunc_Load_balance_index_1] at hfs
  by_cases hc : d = 16 ∧ f = 40
  · rw [if_pos hc] at hfs; obtain ⟨rfl, rfl⟩ := hc; obtain rfl := Option.some.inj hfs; exact fs_balance_index_1_ok N
  rw [if_neg hc] at hfs
  cases hfs
theorem fo_slices_IndexFunc_Load_balance_index_1 : FunOk Try.prog 39 Try.f39 Try.f39.body.get! := ⟨Try.func39, rfl, by decide, by kernel_rfl⟩
attribute [go_sem] E_slices_IndexFunc_Load_balance_index_1_T E_slices_IndexFunc_Load_balance_index_1_G0
set_option maxHeartbeats 4000000 in
theorem w_slices_IndexFunc_Load_balance_index_1 (N : Nat) (a0 : (List Load)) (k1_0_0 : Int) (r : Int) (h : slices_IndexFunc_Load_balance_index_1 N a0 k1_0_0 = some r) : Con Try.prog 39 [] true [.sl false none 2 none (a0.map Load.row), .clo 40 [.iref 1 [[.val (.int .i64 k1_0_0)]] 0 0]] (.val (.int .i64 r)) := by
  refine fun_ok2 (E := E_slices_IndexFunc_Load_balance_index_1 N) (tiOf_ok Try.prog _) (E_slices_IndexFunc_Load_balance_index_1_ok N) mix fo_slices_IndexFunc_Load_balance_index_1 (Nat.le_of_ble_eq_true rfl) ?_
  intro _
  rw [entry_tab (by simp)]
  rw [show entryF [] [.sl false none 2 none (a0.map Load.row), .clo 40 [.iref 1 [[.val (.int .i64 k1_0_0)]] 0 0]] = (updT (updT deadT 0 (.sl false none 2 none (a0.map Load.row))) 1 (.clo 40 [.iref 1 [[.val (.int .i64 k1_0_0)]] 0 0])) from by funext t; match t with | 0 => rfl | 1 => rfl | t + 2 => rfl]
  apply W_start
  simp only [Try.f39, Option.get!, R0_RZ]
  unfold slices_IndexFunc_Load_balance_index_1 at h
  simp (config := { maxSteps := 4000000 }) only [go_sem, Nat.reduceLT, Nat.reduceEqDiff, Nat.reduceAdd, Nat.reduceBEq, Nat.reduceMul, Nat.reduceSub, reduceIte, Nat.reduceLeDiff, reduceCtorEq, Int.reduceNeg, Int.reduceToNat, Int.reduceEq, Int.reduceNe, Int.reduceLT, Int.reduceLE]
  refine W_real fun hreal2 => ?_
  have hl1 := hreal2.lenT 0 (by decide) (by simp only [go_sem, Nat.reduceLT, Nat.reduceEqDiff, Nat.reduceAdd, Nat.reduceBEq, Nat.reduceMul, Nat.reduceSub, reduceIte, Nat.reduceLeDiff, reduceCtorEq, Int.reduceNeg, Int.reduceToNat, Int.reduceEq, Int.reduceNe, Int.reduceLT, Int.reduceLE, Bool.or_self, List.length_set, Int.natCast_zero, Int.cast_ofNat_Int]; rfl)
  rw [List.length_map] at hl1
  refine W_range (fun (v2 : Nat) (b : Unit) => ⟨tab 19 (updT (updT (updT (updT deadT 0 (.sl false none 2 none (a0.map Load.row))) 1 (.clo 40 [.iref 1 [[.val (.int .i64 k1_0_0)]] 0 0])) 7 (.val (.int .i64 ((a0.length : Nat) : Int)))) 8 (.val (.int .i64 ((v2 : Nat) : Int)))), RZ⟩) () h ?_ ?_
  · refine weak_roots ?_ ?_
    · (repeat' (first | exact weakX_nil | refine weakX_cons ?_ ?_)) <;> (first | rfl | simp only [go_sem, Nat.reduceLT, Nat.reduceEqDiff, Nat.reduceAdd, Nat.reduceBEq, Nat.reduceMul, Nat.reduceSub, reduceIte, Nat.reduceLeDiff, reduceCtorEq, Int.reduceNeg, Int.reduceToNat, Int.reduceEq, Int.reduceNe, Int.reduceLT, Int.reduceLE, Bool.or_self, List.length_set, Int.natCast_zero, Int.cast_ofNat_Int])
    · (repeat' (first | exact weakR_nil | refine weakR_cons ?_ ?_ ?_)) <;> (first | rfl | simp only [go_sem, Nat.reduceLT, Nat.reduceEqDiff, Nat.reduceAdd, Nat.reduceBEq, Nat.reduceMul, Nat.reduceSub, reduceIte, Nat.reduceLeDiff, reduceCtorEq, Int.reduceNeg, Int.reduceToNat, Int.reduceEq, Int.reduceNe, Int.reduceLT, Int.reduceLE, Bool.or_self, List.length_set, Int.natCast_zero, Int.cast_ofNat_Int])
  · rintro v2 ⟨⟩ hi3 h -
    rcases drop_cases a0 v2 hi3 with ⟨x5, hi3', hx4, hd6⟩ | ⟨hi3', _, hd6⟩
    · rw [hd6] at h
      simp only [slices_IndexFunc_Load_balance_index_1_L1] at h
      have hw5 := wrap_succ hi3' hl1
      simp (config := { maxSteps := 4000000 }) only [go_sem, Nat.reduceLT, Nat.reduceEqDiff, Nat.reduceAdd, Nat.reduceBEq, Nat.reduceMul, Nat.reduceSub, reduceIte, Nat.reduceLeDiff, reduceCtorEq, Int.reduceNeg, Int.reduceToNat, Int.reduceEq, Int.reduceNe, Int.reduceLT, Int.reduceLE, hx4, hi3', hw5]
      refine W_cond_t rfl ?_
      obtain ⟨r1, hr7, h⟩ := Option.bind_eq_some_iff.1 h
      simp (config := { maxSteps := 4000000 }) only [go_sem, Nat.reduceLT, Nat.reduceEqDiff, Nat.reduceAdd, Nat.reduceBEq, Nat.reduceMul, Nat.reduceSub, reduceIte, Nat.reduceLeDiff, reduceCtorEq, Int.reduceNeg, Int.reduceToNat, Int.reduceEq, Int.reduceNe, Int.reduceLT, Int.reduceLE, hx4, hi3', hw5, hr7]
      refine W_cond_bool rfl (fun hc8 => ?_) (fun hc8 => ?_)
      · first | rw [if_pos hc8] at h | simp only [hc8, Bool.or_false, Bool.or_true, Bool.false_or, Bool.true_or, Bool.and_true, Bool.true_and, Bool.and_false, Bool.false_and, Bool.not_true, Bool.not_false, Bool.false_eq_true, if_true, if_false] at h
        simp (config := { maxSteps := 4000000 }) only [go_sem, Nat.reduceLT, Nat.reduceEqDiff, Nat.reduceAdd, Nat.reduceBEq, Nat.reduceMul, Nat.reduceSub, reduceIte, Nat.reduceLeDiff, reduceCtorEq, Int.reduceNeg, Int.reduceToNat, Int.reduceEq, Int.reduceNe, Int.reduceLT, Int.reduceLE, hx4, hi3', hw5, hr7, hc8, FinW_ret]
        obtain rfl := Option.some.inj h
        exact ⟨_, rfl, (by exact ROk.refl _), (by repeat' (first | exact PureC.val _ | refine PureC.tup ?_ | refine PureC.agg ?_ | exact pure_nil | refine pure_cons ?_ ?_))⟩
      · first | rw [if_neg (ne_true_of_eq_false hc8)] at h | simp only [hc8, Bool.or_false, Bool.or_true, Bool.false_or, Bool.true_or, Bool.and_true, Bool.true_and, Bool.and_false, Bool.false_and, Bool.not_true, Bool.not_false, Bool.false_eq_true, if_true, if_false] at h
        simp (config := { maxSteps := 4000000 }) only [go_sem, Nat.reduceLT, Nat.reduceEqDiff, Nat.reduceAdd, Nat.reduceBEq, Nat.reduceMul, Nat.reduceSub, reduceIte, Nat.reduceLeDiff, reduceCtorEq, Int.reduceNeg, Int.reduceToNat, Int.reduceEq, Int.reduceNe, Int.reduceLT, Int.reduceLE, hx4, hi3', hw5, hr7, hc8]
        first | refine ⟨(), ?_, h⟩ | refine ⟨hi3', (), ?_, h⟩
        refine weak_roots ?_ ?_
        · (repeat' (first | exact weakX_nil | refine weakX_cons ?_ ?_)) <;> (first | rfl | simp only [go_sem, Nat.reduceLT, Nat.reduceEqDiff, Nat.reduceAdd, Nat.reduceBEq, Nat.reduceMul, Nat.reduceSub, reduceIte, Nat.reduceLeDiff, reduceCtorEq, Int.reduceNeg, Int.reduceToNat, Int.reduceEq, Int.reduceNe, Int.reduceLT, Int.reduceLE, Bool.or_self, List.length_set, Int.natCast_zero, Int.cast_ofNat_Int, hx4, hi3', hw5, hr7, hc8])
        · (repeat' (first | exact weakR_nil | refine weakR_cons ?_ ?_ ?_)) <;> (first | rfl | simp only [go_sem, Nat.reduceLT, Nat.reduceEqDiff, Nat.reduceAdd, Nat.reduceBEq, Nat.reduceMul, Nat.reduceSub, reduceIte, Nat.reduceLeDiff, reduceCtorEq, Int.reduceNeg, Int.reduceToNat, Int.reduceEq, Int.reduceNe, Int.reduceLT, Int.reduceLE, Bool.or_self, List.length_set, Int.natCast_zero, Int.cast_ofNat_Int, hx4, hi3', hw5, hr7, hc8])
    · rw [hd6] at h
      simp only [slices_IndexFunc_Load_balance_index_1_L1] at h
      simp (config := { maxSteps := 4000000 }) only [go_sem, Nat.reduceLT, Nat.reduceEqDiff, Nat.reduceAdd, Nat.reduceBEq, Nat.reduceMul, Nat.reduceSub, reduceIte, Nat.reduceLeDiff, reduceCtorEq, Int.reduceNeg, Int.reduceToNat, Int.reduceEq, Int.reduceNe, Int.reduceLT, Int.reduceLE, hi3']
      refine W_cond_f rfl ?_
      simp (config := { maxSteps := 4000000 }) only [go_sem, Nat.reduceLT, Nat.reduceEqDiff, Nat.reduceAdd, Nat.reduceBEq, Nat.reduceMul, Nat.reduceSub, reduceIte, Nat.reduceLeDiff, reduceCtorEq, Int.reduceNeg, Int.reduceToNat, Int.reduceEq, Int.reduceNe, Int.reduceLT, Int.reduceLE, hi3', FinW_ret]
      obtain rfl := Option.some.inj h
      exact ⟨_, rfl, (by exact ROk.refl _), (by repeat' (first | exact PureC.val _ | refine PureC.tup ?_ | refine PureC.agg ?_ | exact pure_nil | refine pure_cons ?_ ?_))⟩
def fs_slices_IndexFunc_Load_balance_index_1 (N : Nat) : FnS := { own := [], pure := true, fn := fun cs => match cs with
  | [c0, .clo 40 [.iref 1 [[k1_0_0]] 0 0]] => ((decL 2 Load.dec) c0).bind fun qc0 => ((decI .i64) k1_0_0).bind fun qk1_0_0 => (slices_IndexFunc_Load_balance_index_1 N qc0 qk1_0_0).map fun r => .val (.int .i64 r)
  | _ => none }
theorem fs_slices_IndexFunc_Load_balance_index_1_own (N : Nat) : (fs_slices_IndexFunc_Load_balance_index_1 N).own = [] := rfl
theorem fs_slices_IndexFunc_Load_balance_index_1_pure (N : Nat) : (fs_slices_IndexFunc_Load_balance_index_1 N).pure = true := rfl
attribute [go_sem] fs_slices_IndexFunc_Load_balance_index_1 fs_slices_IndexFunc_Load_balance_index_1_own fs_slices_IndexFunc_Load_balance_index_1_pure
theorem fs_slices_IndexFunc_Load_balance_index_1_ok (N : Nat) : FSOk Try.prog 39 (fs_slices_IndexFunc_Load_balance_index_1 N) := by
  refine ⟨fun cs r h => ?_, fun h => by cases h⟩
  simp only [fs_slices_IndexFunc_Load_balance_index_1] at h
  split at h
  · simp only [Option.bind_eq_some_iff, Option.map_eq_some_iff] at h
    obtain ⟨q0, h0, q1, h1, r', hr, rfl⟩ := h
    exact ((w_slices_IndexFunc_Load_balance_index_1 N q0 q1 r' hr).args (LeL.cons (decL_le Load.dec_le h0) (LeL.cons (Le.clo (LeL.cons (Le.iref1 (LeL.cons (decI_le h1) (LeL.nil))) (LeL.nil))) (LeL.nil))))
  · cases h

end Go.Proofs.Ytpbloecedgddlaa
end

section
set_option linter.unusedSimpArgs false
set_option linter.unusedVariables false
set_option maxRecDepth 100000
namespace Go.Proofs.Ytpbloecedgddlaa
open Go Go.Proofs Go.Abs
noncomputable def E_balance_index (N : Nat) : Env := { T := tiOf Try.prog, G := fun d f => if d = 7 ∧ f = 39 then some (fs_slices_IndexFunc_Load_balance_index_1 N) else none }
theorem E_balance_index_T (N : Nat) : (E_balance_index N).T = tiOf Try.prog := rfl
theorem E_balance_index_G0 (N : Nat) : (E_balance_index N).G 7 39 = some (fs_slices_IndexFunc_Load_balance_index_1 N) := rfl
theorem E_balance_index_ok (N : Nat) : GOk Try.prog { T := tiOf Try.prog, G := (E_balance_index N).G } := by
  intro d f fs hfs
  simp only [E_balance_index] at hfs
  by_cases hc : d = 7 ∧ f = 39
  · rw [if_pos hc] at hfs; obtain ⟨rfl, rfl⟩ := hc; obtain rfl := Option.some.inj hfs; exact fs_slices_IndexFunc_Load_balance_index_1_ok N
  rw [if_neg hc] at hfs
  cases hfs
theorem fo_balance_index : FunOk Try.prog 33 Try.f33 Try.f33.body.get! := ⟨Try.func33, rfl, by decide, by kernel_rfl⟩
attribute [go_sem] E_balance_index_T E_balance_index_G0
set_option maxHeartbeats 4000000 in
theorem w_balance_index (N : Nat) (a0 : (List Load)) (a1 : Int) (r : Int) (h : balance_index N a0 a1 = some r) : Con Try.prog 33 [] true [.sl false none 2 none (a0.map Load.row), .val (.int .i64 a1)] (.val (.int .i64 r)) := by
  refine fun_ok2 (E := E_balance_index N) (tiOf_ok Try.prog _) (E_balance_index_ok N) mix fo_balance_index (Nat.le_of_ble_eq_true rfl) ?_
  intro _
  rw [entry_tab (by simp)]
  rw [show entryF [] [.sl false none 2 none (a0.map Load.row), .val (.int .i64 a1)] = (updT (updT deadT 0 (.sl false none 2 none (a0.map Load.row))) 1 (.val (.int .i64 a1))) from by funext t; match t with | 0 => rfl | 1 => rfl | t + 2 => rfl]
  apply W_start
  simp only [Try.f33, Option.get!, R0_RZ]
  unfold balance_index at h
  obtain ⟨r1, hr1, h⟩ := Option.bind_eq_some_iff.1 h
  simp (config := { maxSteps := 4000000 }) only [go_sem, Nat.reduceLT, Nat.reduceEqDiff, Nat.reduceAdd, Nat.reduceBEq, Nat.reduceMul, Nat.reduceSub, reduceIte, Nat.reduceLeDiff, reduceCtorEq, Int.reduceNeg, Int.reduceToNat, Int.reduceEq, Int.reduceNe, Int.reduceLT, Int.reduceLE, hr1, FinW_ret]
  obtain rfl := Option.some.inj h
  exact ⟨_, rfl, (by exact ROk.refl _), (by repeat' (first | exact PureC.val _ | refine PureC.tup ?_ | refine PureC.agg ?_ | exact pure_nil | refine pure_cons ?_ ?_))⟩
def fs_balance_index (N : Nat) : FnS := { own := [], pure := true, fn := fun cs => match cs with
  | [c0, c1] => ((decL 2 Load.dec) c0).bind fun qc0 => ((decI .i64) c1).bind fun qc1 => (balance_index N qc0 qc1).map fun r => .val (.int .i64 r)
  | _ => none }
theorem fs_balance_index_own (N : Nat) : (fs_balance_index N).own = [] := rfl
theorem fs_balance_index_pure (N : Nat) : (fs_balance_index N).pure = true := rfl
attribute [go_sem] fs_balance_index fs_balance_index_own fs_balance_index_pure
theorem fs_balance_index_ok (N : Nat) : FSOk Try.prog 33 (fs_balance_index N) := by
  refine ⟨fun cs r h => ?_, fun h => by cases h⟩
  simp only [fs_balance_index] at h
  split at h
  · simp only [Option.bind_eq_some_iff, Option.map_eq_some_iff] at h
    obtain ⟨q0, h0, q1, h1, r', hr, rfl⟩ := h
    exact ((w_balance_index N q0 q1 r' hr).args (LeL.cons (decL_le Load.dec_le h0) (LeL.cons (decI_le h1) (LeL.nil))))
  · cases h

end Go.Proofs.Ytpbloecedgddlaa
end

section
set_option linter.unusedSimpArgs false
set_option linter.unusedVariables false
set_option maxRecDepth 100000
namespace Go.Proofs.Ytpbloecedgddlaa
open Go Go.Proofs Go.Abs
noncomputable def E_balance_Apply (N : Nat) : Env := { T := tiOf Try.prog, G := fun d f => if d = 12 ∧ f = 14 then some (fs_balance_Valid N) else if d = 15 ∧ f = 31 then some (fso_slices_Clone_Load N) else if d = 25 ∧ f = 33 then some (fs_balance_index N) else if d = 29 ∧ f = 33 then some (fs_balance_index N) else none }
theorem E_balance_Apply_T (N : Nat) : (E_balance_Apply N).T = tiOf Try.prog := rfl
theorem E_balance_Apply_G0 (N : Nat) : (E_balance_Apply N).G 12 14 = some (fs_balance_Valid N) := rfl
theorem E_balance_Apply_G1 (N : Nat) : (E_balance_Apply N).G 15 31 = some (fso_slices_Clone_Load N) := rfl
theorem E_balance_Apply_G2 (N : Nat) : (E_balance_Apply N).G 25 33 = some (fs_balance_index N) := rfl
theorem E_balance_Apply_G3 (N : Nat) : (E_balance_Apply N).G 29 33 = some (fs_balance_index N) := rfl
theorem E_balance_Apply_ok (N : Nat) : GOk Try.prog { T := tiOf Try.prog, G := (E_balance_Apply N).G } := by
  intro d f fs hfs
  simp only [E_balance_Apply] at hfs
  by_cases hc : d = 12 ∧ f = 14
  · rw [if_pos hc] at hfs; obtain ⟨rfl, rfl⟩ := hc; obtain rfl := Option.some.inj hfs; exact fs_balance_Valid_ok N
  rw [if_neg hc] at hfs
  by_cases hc : d = 15 ∧ f = 31
  · rw [if_pos hc] at hfs; obtain ⟨rfl, rfl⟩ := hc; obtain rfl := Option.some.inj hfs; exact fso_slices_Clone_Load_ok N
  rw [if_neg hc] at hfs
  by_cases hc : d = 25 ∧ f = 33
  · rw [if_pos hc] at hfs; obtain ⟨rfl, rfl⟩ := hc; obtain rfl := Option.some.inj hfs; exact fs_balance_index_ok N
  rw [if_neg hc] at hfs
  by_cases hc : d = 29 ∧ f = 33
  · rw [if_pos hc] at hfs; obtain ⟨rfl, rfl⟩ := hc; obtain rfl := Option.some.inj hfs; exact fs_balance_index_ok N
  rw [if_neg hc] at hfs
  cases hfs
theorem fo_balance_Apply : FunOk Try.prog 11 Try.f11 Try.f11.body.get! := ⟨Try.func11, rfl, by decide, by kernel_rfl⟩
attribute [go_sem] E_balance_Apply_T E_balance_Apply_G0 E_balance_Apply_G1 E_balance_Apply_G2 E_balance_Apply_G3
set_option maxHeartbeats 4000000 in
theorem w_balance_Apply (N : Nat) (a0 : (List Load)) (a1 : (List LoadMove)) (r : (List Load) × Int) (h : balance_Apply N a0 a1 = some r) : Con Try.prog 11 [] true [.sl false none 2 none (a0.map Load.row), .sl false none 2 none (a1.map LoadMove.row)] (.tup [.sl true none 2 none (r.1.map Load.row), .val (.int .i64 r.2)]) := by
  refine fun_ok2 (E := E_balance_Apply N) (tiOf_ok Try.prog _) (E_balance_Apply_ok N) mix fo_balance_Apply (Nat.le_of_ble_eq_true rfl) ?_
  intro _
  rw [entry_tab (by simp)]
  rw [show entryF [] [.sl false none 2 none (a0.map Load.row), .sl false none 2 none (a1.map LoadMove.row)] = (updT (updT deadT 0 (.sl false none 2 none (a0.map Load.row))) 1 (.sl false none 2 none (a1.map LoadMove.row))) from by funext t; match t with | 0 => rfl | 1 => rfl | t + 2 => rfl]
  apply W_start
  simp only [Try.f11, Option.get!, R0_RZ]
  unfold balance_Apply at h
  obtain ⟨r1, hr1, h⟩ := Option.bind_eq_some_iff.1 h
  simp (config := { maxSteps := 4000000 }) only [go_sem, Nat.reduceLT, Nat.reduceEqDiff, Nat.reduceAdd, Nat.reduceBEq, Nat.reduceMul, Nat.reduceSub, reduceIte, Nat.reduceLeDiff, reduceCtorEq, Int.reduceNeg, Int.reduceToNat, Int.reduceEq, Int.reduceNe, Int.reduceLT, Int.reduceLE, hr1]
  repeat' ((with_reducible refine and_bar ?_ ?_); kernel_rfl)
  refine W_cond_nbool rfl (fun hc2 => ?_) (fun hc2 => ?_)
  · first | rw [if_neg (ne_true_of_eq_false hc2)] at h | simp only [hc2, Bool.or_false, Bool.or_true, Bool.false_or, Bool.true_or, Bool.and_true, Bool.true_and, Bool.and_false, Bool.false_and, Bool.not_true, Bool.not_false, Bool.false_eq_true, if_true, if_false] at h
    simp (config := { maxSteps := 4000000 }) only [go_sem, Nat.reduceLT, Nat.reduceEqDiff, Nat.reduceAdd, Nat.reduceBEq, Nat.reduceMul, Nat.reduceSub, reduceIte, Nat.reduceLeDiff, reduceCtorEq, Int.reduceNeg, Int.reduceToNat, Int.reduceEq, Int.reduceNe, Int.reduceLT, Int.reduceLE, hr1, hc2, FinW_ret]
    repeat' ((with_reducible refine and_bar ?_ ?_); kernel_rfl)
    obtain rfl := Option.some.inj h
    exact ⟨_, rfl, (by repeat' (first | exact ROk.refl _ | exact ROk.nil _ | ((refine ROk.of _ ?_ ?_); (focus ((repeat' (first | exact Le.refl _ | exact LeL.nil | exact Le.nils | exact LeLL.refl _ | refine LeLL.mapAppend ?_ ?_ | refine LeLL.cons ?_ ?_ | refine Le.sl ?_ | refine Le.tup ?_ | refine Le.agg ?_ | refine LeL.cons ?_ ?_)); done)); (focus ((repeat' (first | exact NoOwn.val _ | exact NoOwn.sl _ _ _ _ | refine NoOwn.tup ?_ | refine NoOwn.agg ?_ | exact noOwn_nil | refine noOwn_cons ?_ ?_)); done))) | ((refine ROk.own ?_ ?_); (focus ((repeat' (first | exact Le.refl _ | exact LeL.nil | exact Le.nils | exact LeLL.refl _ | refine LeLL.mapAppend ?_ ?_ | refine LeLL.cons ?_ ?_ | refine Le.sl ?_ | refine Le.tup ?_ | refine Le.agg ?_ | refine LeL.cons ?_ ?_)); done)); (focus ((first | exact RowOk.noOwn Load.row_ok _ | exact RowOk.noOwn LoadMove.row_ok _); done))) | refine ROk.agg rfl ?_ | refine ROk.tup rfl ?_ | exact rok_nil | refine rok_cons ?_ ?_)), (by (repeat' (first | exact PureC.val _ | refine PureC.tup ?_ | refine PureC.agg ?_ | exact pure_nil | refine pure_cons ?_ ?_ | refine PureC.sl ?_ | exact pure_rows Load.row_pure _ | exact pure_rows LoadMove.row_pure _ |  exact pure_rows_nil | refine pure_rows_append ?_ ?_ | refine pure_rows_cons ?_ ?_)))⟩
  · first | rw [if_pos hc2] at h | simp only [hc2, Bool.or_false, Bool.or_true, Bool.false_or, Bool.true_or, Bool.and_true, Bool.true_and, Bool.and_false, Bool.false_and, Bool.not_true, Bool.not_false, Bool.false_eq_true, if_true, if_false] at h
    obtain ⟨r2, hr3, h⟩ := Option.bind_eq_some_iff.1 h
    simp (config := { maxSteps := 4000000 }) only [go_sem, Nat.reduceLT, Nat.reduceEqDiff, Nat.reduceAdd, Nat.reduceBEq, Nat.reduceMul, Nat.reduceSub, reduceIte, Nat.reduceLeDiff, reduceCtorEq, Int.reduceNeg, Int.reduceToNat, Int.reduceEq, Int.reduceNe, Int.reduceLT, Int.reduceLE, hr1, hc2, hr3]
    repeat' ((with_reducible refine and_bar ?_ ?_); kernel_rfl)
    refine W_real fun hreal5 => ?_
    have hl4 := hreal5.lenT 1 (by decide) (by simp only [go_sem, Nat.reduceLT, Nat.reduceEqDiff, Nat.reduceAdd, Nat.reduceBEq, Nat.reduceMul, Nat.reduceSub, reduceIte, Nat.reduceLeDiff, reduceCtorEq, Int.reduceNeg, Int.reduceToNat, Int.reduceEq, Int.reduceNe, Int.reduceLT, Int.reduceLE, Bool.or_self, List.length_set, Int.natCast_zero, Int.cast_ofNat_Int, hr1, hc2, hr3]; rfl)
    rw [List.length_map] at hl4
    refine W_range (fun (v6 : Nat) (b : List Load) => ⟨tab 70 (updT (updT (updT (updT deadT 6 (.pal 15 [] 0 b.length none)) 16 (.sl false none 2 none (a1.map LoadMove.row))) 17 (.val (.int .i64 ((a1.length : Nat) : Int)))) 18 (.val (.int .i64 ((v6 : Nat) : Int)))), (upd RZ 15 (.sl true none 2 none (b.map Load.row)))⟩) r2 h ?_ ?_
    · refine weak_roots ?_ ?_
      · (repeat' (first | exact weakX_nil | refine weakX_cons ?_ ?_)) <;> (first | rfl | simp only [go_sem, Nat.reduceLT, Nat.reduceEqDiff, Nat.reduceAdd, Nat.reduceBEq, Nat.reduceMul, Nat.reduceSub, reduceIte, Nat.reduceLeDiff, reduceCtorEq, Int.reduceNeg, Int.reduceToNat, Int.reduceEq, Int.reduceNe, Int.reduceLT, Int.reduceLE, Bool.or_self, List.length_set, Int.natCast_zero, Int.cast_ofNat_Int, hr1, hc2, hr3])
      · (repeat' (first | exact weakR_nil | refine weakR_cons ?_ ?_ ?_)) <;> (first | rfl | simp only [go_sem, Nat.reduceLT, Nat.reduceEqDiff, Nat.reduceAdd, Nat.reduceBEq, Nat.reduceMul, Nat.reduceSub, reduceIte, Nat.reduceLeDiff, reduceCtorEq, Int.reduceNeg, Int.reduceToNat, Int.reduceEq, Int.reduceNe, Int.reduceLT, Int.reduceLE, Bool.or_self, List.length_set, Int.natCast_zero, Int.cast_ofNat_Int, hr1, hc2, hr3])
    · rintro v6 l5 hi6 h -
      rcases drop_cases a1 v6 hi6 with ⟨x9, hi6', hx7, hd9⟩ | ⟨hi6', _, hd9⟩
      · rw [hd9] at h
        simp only [balance_Apply_L1] at h
        have hw8 := wrap_succ hi6' hl4
        simp (config := { maxSteps := 4000000 }) only [go_sem, Nat.reduceLT, Nat.reduceEqDiff, Nat.reduceAdd, Nat.reduceBEq, Nat.reduceMul, Nat.reduceSub, reduceIte, Nat.reduceLeDiff, reduceCtorEq, Int.reduceNeg, Int.reduceToNat, Int.reduceEq, Int.reduceNe, Int.reduceLT, Int.reduceLE, hr1, hc2, hr3, hx7, hi6', hw8]
        repeat' ((with_reducible refine and_bar ?_ ?_); kernel_rfl)
        refine W_cond_t rfl ?_
        obtain ⟨r3, hr10, h⟩ := Option.bind_eq_some_iff.1 h
        obtain ⟨r4, hr11, h⟩ := Option.bind_eq_some_iff.1 h
        simp (config := { maxSteps := 4000000 }) only [go_sem, Nat.reduceLT, Nat.reduceEqDiff, Nat.reduceAdd, Nat.reduceBEq, Nat.reduceMul, Nat.reduceSub, reduceIte, Nat.reduceLeDiff, reduceCtorEq, Int.reduceNeg, Int.reduceToNat, Int.reduceEq, Int.reduceNe, Int.reduceLT, Int.reduceLE, hr1, hc2, hr3, hx7, hi6', hw8, hr10, hr11]
        repeat' ((with_reducible refine and_bar ?_ ?_); kernel_rfl)
        refine W_cond_dec rfl (fun hc12 => ?_) (fun hc12 => ?_)
        · have hc12d := decide_eq_true hc12
          first | rw [if_pos hc12] at h | rw [if_pos hc12d] at h | simp only [hc12d, Bool.not_true, Bool.not_false, Bool.false_eq_true, if_true, if_false] at h
          unfold balance_Apply_J2 at h
          simp (config := { maxSteps := 4000000 }) only [go_sem, Nat.reduceLT, Nat.reduceEqDiff, Nat.reduceAdd, Nat.reduceBEq, Nat.reduceMul, Nat.reduceSub, reduceIte, Nat.reduceLeDiff, reduceCtorEq, Int.reduceNeg, Int.reduceToNat, Int.reduceEq, Int.reduceNe, Int.reduceLT, Int.reduceLE, hr1, hc2, hr3, hx7, hi6', hw8, hr10, hr11, hc12d]
          repeat' ((with_reducible refine and_bar ?_ ?_); kernel_rfl)
          refine W_cond_t rfl ?_
          first | rw [if_pos (rfl : true = true)] at h | rw [if_neg Bool.false_ne_true] at h | skip
          simp (config := { maxSteps := 4000000 }) only [go_sem, Nat.reduceLT, Nat.reduceEqDiff, Nat.reduceAdd, Nat.reduceBEq, Nat.reduceMul, Nat.reduceSub, reduceIte, Nat.reduceLeDiff, reduceCtorEq, Int.reduceNeg, Int.reduceToNat, Int.reduceEq, Int.reduceNe, Int.reduceLT, Int.reduceLE, hr1, hc2, hr3, hx7, hi6', hw8, hr10, hr11, hc12d, FinW_ret]
          repeat' ((with_reducible refine and_bar ?_ ?_); kernel_rfl)
          obtain rfl := Option.some.inj h
          exact ⟨_, rfl, (by repeat' (first | exact ROk.refl _ | exact ROk.nil _ | ((refine ROk.of _ ?_ ?_); (focus ((repeat' (first | exact Le.refl _ | exact LeL.nil | exact Le.nils | exact LeLL.refl _ | refine LeLL.mapAppend ?_ ?_ | refine LeLL.cons ?_ ?_ | refine Le.sl ?_ | refine Le.tup ?_ | refine Le.agg ?_ | refine LeL.cons ?_ ?_)); done)); (focus ((repeat' (first | exact NoOwn.val _ | exact NoOwn.sl _ _ _ _ | refine NoOwn.tup ?_ | refine NoOwn.agg ?_ | exact noOwn_nil | refine noOwn_cons ?_ ?_)); done))) | ((refine ROk.own ?_ ?_); (focus ((repeat' (first | exact Le.refl _ | exact LeL.nil | exact Le.nils | exact LeLL.refl _ | refine LeLL.mapAppend ?_ ?_ | refine LeLL.cons ?_ ?_ | refine Le.sl ?_ | refine Le.tup ?_ | refine Le.agg ?_ | refine LeL.cons ?_ ?_)); done)); (focus ((first | exact RowOk.noOwn Load.row_ok _ | exact RowOk.noOwn LoadMove.row_ok _); done))) | refine ROk.agg rfl ?_ | refine ROk.tup rfl ?_ | exact rok_nil | refine rok_cons ?_ ?_)), (by (repeat' (first | exact PureC.val _ | refine PureC.tup ?_ | refine PureC.agg ?_ | exact pure_nil | refine pure_cons ?_ ?_ | refine PureC.sl ?_ | exact pure_rows Load.row_pure _ | exact pure_rows LoadMove.row_pure _ |  exact pure_rows_nil | refine pure_rows_append ?_ ?_ | refine pure_rows_cons ?_ ?_)))⟩
        · have hc12d := decide_eq_false hc12
          first | rw [if_neg hc12] at h | rw [if_neg (ne_true_of_eq_false hc12d)] at h | simp only [hc12d, Bool.not_true, Bool.not_false, Bool.false_eq_true, if_true, if_false] at h
          unfold balance_Apply_J2 at h
          simp (config := { maxSteps := 4000000 }) only [go_sem, Nat.reduceLT, Nat.reduceEqDiff, Nat.reduceAdd, Nat.reduceBEq, Nat.reduceMul, Nat.reduceSub, reduceIte, Nat.reduceLeDiff, reduceCtorEq, Int.reduceNeg, Int.reduceToNat, Int.reduceEq, Int.reduceNe, Int.reduceLT, Int.reduceLE, hr1, hc2, hr3, hx7, hi6', hw8, hr10, hr11, hc12d]
          repeat' ((with_reducible refine and_bar ?_ ?_); kernel_rfl)
          refine W_cond_dec rfl (fun hc13 => ?_) (fun hc13 => ?_)
          · have hc13d := decide_eq_true hc13
            first | rw [if_pos hc13] at h | rw [if_pos hc13d] at h | simp only [hc13d, Bool.not_true, Bool.not_false, Bool.false_eq_true, if_true, if_false] at h
            simp (config := { maxSteps := 4000000 }) only [go_sem, Nat.reduceLT, Nat.reduceEqDiff, Nat.reduceAdd, Nat.reduceBEq, Nat.reduceMul, Nat.reduceSub, reduceIte, Nat.reduceLeDiff, reduceCtorEq, Int.reduceNeg, Int.reduceToNat, Int.reduceEq, Int.reduceNe, Int.reduceLT, Int.reduceLE, hr1, hc2, hr3, hx7, hi6', hw8, hr10, hr11, hc12d, hc13d, FinW_ret]
            repeat' ((with_reducible refine and_bar ?_ ?_); kernel_rfl)
            obtain rfl := Option.some.inj h
            exact ⟨_, rfl, (by repeat' (first | exact ROk.refl _ | exact ROk.nil _ | ((refine ROk.of _ ?_ ?_); (focus ((repeat' (first | exact Le.refl _ | exact LeL.nil | exact Le.nils | exact LeLL.refl _ | refine LeLL.mapAppend ?_ ?_ | refine LeLL.cons ?_ ?_ | refine Le.sl ?_ | refine Le.tup ?_ | refine Le.agg ?_ | refine LeL.cons ?_ ?_)); done)); (focus ((repeat' (first | exact NoOwn.val _ | exact NoOwn.sl _ _ _ _ | refine NoOwn.tup ?_ | refine NoOwn.agg ?_ | exact noOwn_nil | refine noOwn_cons ?_ ?_)); done))) | ((refine ROk.own ?_ ?_); (focus ((repeat' (first | exact Le.refl _ | exact LeL.nil | exact Le.nils | exact LeLL.refl _ | refine LeLL.mapAppend ?_ ?_ | refine LeLL.cons ?_ ?_ | refine Le.sl ?_ | refine Le.tup ?_ | refine Le.agg ?_ | refine LeL.cons ?_ ?_)); done)); (focus ((first | exact RowOk.noOwn Load.row_ok _ | exact RowOk.noOwn LoadMove.row_ok _); done))) | refine ROk.agg rfl ?_ | refine ROk.tup rfl ?_ | exact rok_nil | refine rok_cons ?_ ?_)), (by (repeat' (first | exact PureC.val _ | refine PureC.tup ?_ | refine PureC.agg ?_ | exact pure_nil | refine pure_cons ?_ ?_ | refine PureC.sl ?_ | exact pure_rows Load.row_pure _ | exact pure_rows LoadMove.row_pure _ |  exact pure_rows_nil | refine pure_rows_append ?_ ?_ | refine pure_rows_cons ?_ ?_)))⟩
          · have hc13d := decide_eq_false hc13
            first | rw [if_neg hc13] at h | rw [if_neg (ne_true_of_eq_false hc13d)] at h | simp only [hc13d, Bool.not_true, Bool.not_false, Bool.false_eq_true, if_true, if_false] at h
            simp (config := { maxSteps := 4000000 }) only [go_sem, Nat.reduceLT, Nat.reduceEqDiff, Nat.reduceAdd, Nat.reduceBEq, Nat.reduceMul, Nat.reduceSub, reduceIte, Nat.reduceLeDiff, reduceCtorEq, Int.reduceNeg, Int.reduceToNat, Int.reduceEq, Int.reduceNe, Int.reduceLT, Int.reduceLE, hr1, hc2, hr3, hx7, hi6', hw8, hr10, hr11, hc12d, hc13d]
            repeat' ((with_reducible refine and_bar ?_ ?_); kernel_rfl)
            refine W_cond_dec rfl (fun hc14 => ?_) (fun hc14 => ?_)
            · have hc14d := decide_eq_true hc14
              first | rw [if_pos hc14] at h | rw [if_pos hc14d] at h | simp only [hc14d, Bool.not_true, Bool.not_false, Bool.false_eq_true, if_true, if_false] at h
              simp (config := { maxSteps := 4000000 }) only [go_sem, Nat.reduceLT, Nat.reduceEqDiff, Nat.reduceAdd, Nat.reduceBEq, Nat.reduceMul, Nat.reduceSub, reduceIte, Nat.reduceLeDiff, reduceCtorEq, Int.reduceNeg, Int.reduceToNat, Int.reduceEq, Int.reduceNe, Int.reduceLT, Int.reduceLE, hr1, hc2, hr3, hx7, hi6', hw8, hr10, hr11, hc12d, hc13d, hc14d, FinW_ret]
              repeat' ((with_reducible refine and_bar ?_ ?_); kernel_rfl)
              obtain rfl := Option.some.inj h
              exact ⟨_, rfl, (by repeat' (first | exact ROk.refl _ | exact ROk.nil _ | ((refine ROk.of _ ?_ ?_); (focus ((repeat' (first | exact Le.refl _ | exact LeL.nil | exact Le.nils | exact LeLL.refl _ | refine LeLL.mapAppend ?_ ?_ | refine LeLL.cons ?_ ?_ | refine Le.sl ?_ | refine Le.tup ?_ | refine Le.agg ?_ | refine LeL.cons ?_ ?_)); done)); (focus ((repeat' (first | exact NoOwn.val _ | exact NoOwn.sl _ _ _ _ | refine NoOwn.tup ?_ | refine NoOwn.agg ?_ | exact noOwn_nil | refine noOwn_cons ?_ ?_)); done))) | ((refine ROk.own ?_ ?_); (focus ((repeat' (first | exact Le.refl _ | exact LeL.nil | exact Le.nils | exact LeLL.refl _ | refine LeLL.mapAppend ?_ ?_ | refine LeLL.cons ?_ ?_ | refine Le.sl ?_ | refine Le.tup ?_ | refine Le.agg ?_ | refine LeL.cons ?_ ?_)); done)); (focus ((first | exact RowOk.noOwn Load.row_ok _ | exact RowOk.noOwn LoadMove.row_ok _); done))) | refine ROk.agg rfl ?_ | refine ROk.tup rfl ?_ | exact rok_nil | refine rok_cons ?_ ?_)), (by (repeat' (first | exact PureC.val _ | refine PureC.tup ?_ | refine PureC.agg ?_ | exact pure_nil | refine pure_cons ?_ ?_ | refine PureC.sl ?_ | exact pure_rows Load.row_pure _ | exact pure_rows LoadMove.row_pure _ |  exact pure_rows_nil | refine pure_rows_append ?_ ?_ | refine pure_rows_cons ?_ ?_)))⟩
            · have hc14d := decide_eq_false hc14
              first | rw [if_neg hc14] at h | rw [if_neg (ne_true_of_eq_false hc14d)] at h | simp only [hc14d, Bool.not_true, Bool.not_false, Bool.false_eq_true, if_true, if_false] at h
              obtain ⟨x5, hb15, hx16, h⟩ := gx_some h
              simp (config := { maxSteps := 4000000 }) only [go_sem, Nat.reduceLT, Nat.reduceEqDiff, Nat.reduceAdd, Nat.reduceBEq, Nat.reduceMul, Nat.reduceSub, reduceIte, Nat.reduceLeDiff, reduceCtorEq, Int.reduceNeg, Int.reduceToNat, Int.reduceEq, Int.reduceNe, Int.reduceLT, Int.reduceLE, hr1, hc2, hr3, hx7, hi6', hw8, hr10, hr11, hc12d, hc13d, hc14d, hb15, hx16]
              repeat' ((with_reducible refine and_bar ?_ ?_); kernel_rfl)
              refine W_cond_dec rfl (fun hc17 => ?_) (fun hc17 => ?_)
              · have hc17d := decide_eq_true hc17
                first | rw [if_pos hc17] at h | rw [if_pos hc17d] at h | simp only [hc17d, Bool.not_true, Bool.not_false, Bool.false_eq_true, if_true, if_false] at h
                unfold balance_Apply_J1 at h
                simp (config := { maxSteps := 4000000 }) only [go_sem, Nat.reduceLT, Nat.reduceEqDiff, Nat.reduceAdd, Nat.reduceBEq, Nat.reduceMul, Nat.reduceSub, reduceIte, Nat.reduceLeDiff, reduceCtorEq, Int.reduceNeg, Int.reduceToNat, Int.reduceEq, Int.reduceNe, Int.reduceLT, Int.reduceLE, hr1, hc2, hr3, hx7, hi6', hw8, hr10, hr11, hc12d, hc13d, hc14d, hb15, hx16, hc17d]
                repeat' ((with_reducible refine and_bar ?_ ?_); kernel_rfl)
                refine W_cond_t rfl ?_
                first | rw [if_pos (rfl : true = true)] at h | rw [if_neg Bool.false_ne_true] at h | skip
                simp (config := { maxSteps := 4000000 }) only [go_sem, Nat.reduceLT, Nat.reduceEqDiff, Nat.reduceAdd, Nat.reduceBEq, Nat.reduceMul, Nat.reduceSub, reduceIte, Nat.reduceLeDiff, reduceCtorEq, Int.reduceNeg, Int.reduceToNat, Int.reduceEq, Int.reduceNe, Int.reduceLT, Int.reduceLE, hr1, hc2, hr3, hx7, hi6', hw8, hr10, hr11, hc12d, hc13d, hc14d, hb15, hx16, hc17d, FinW_ret]
                repeat' ((with_reducible refine and_bar ?_ ?_); kernel_rfl)
                obtain rfl := Option.some.inj h
                exact ⟨_, rfl, (by repeat' (first | exact ROk.refl _ | exact ROk.nil _ | ((refine ROk.of _ ?_ ?_); (focus ((repeat' (first | exact Le.refl _ | exact LeL.nil | exact Le.nils | exact LeLL.refl _ | refine LeLL.mapAppend ?_ ?_ | refine LeLL.cons ?_ ?_ | refine Le.sl ?_ | refine Le.tup ?_ | refine Le.agg ?_ | refine LeL.cons ?_ ?_)); done)); (focus ((repeat' (first | exact NoOwn.val _ | exact NoOwn.sl _ _ _ _ | refine NoOwn.tup ?_ | refine NoOwn.agg ?_ | exact noOwn_nil | refine noOwn_cons ?_ ?_)); done))) | ((refine ROk.own ?_ ?_); (focus ((repeat' (first | exact Le.refl _ | exact LeL.nil | exact Le.nils | exact LeLL.refl _ | refine LeLL.mapAppend ?_ ?_ | refine LeLL.cons ?_ ?_ | refine Le.sl ?_ | refine Le.tup ?_ | refine Le.agg ?_ | refine LeL.cons ?_ ?_)); done)); (focus ((first | exact RowOk.noOwn Load.row_ok _ | exact RowOk.noOwn LoadMove.row_ok _); done))) | refine ROk.agg rfl ?_ | refine ROk.tup rfl ?_ | exact rok_nil | refine rok_cons ?_ ?_)), (by (repeat' (first | exact PureC.val _ | refine PureC.tup ?_ | refine PureC.agg ?_ | exact pure_nil | refine pure_cons ?_ ?_ | refine PureC.sl ?_ | exact pure_rows Load.row_pure _ | exact pure_rows LoadMove.row_pure _ |  exact pure_rows_nil | refine pure_rows_append ?_ ?_ | refine pure_rows_cons ?_ ?_)))⟩
              · have hc17d := decide_eq_false hc17
                first | rw [if_neg hc17] at h | rw [if_neg (ne_true_of_eq_false hc17d)] at h | simp only [hc17d, Bool.not_true, Bool.not_false, Bool.false_eq_true, if_true, if_false] at h
                obtain ⟨x6, hb18, hx19, h⟩ := gx_some h
                unfold balance_Apply_J1 at h
                simp (config := { maxSteps := 4000000 }) only [go_sem, Nat.reduceLT, Nat.reduceEqDiff, Nat.reduceAdd, Nat.reduceBEq, Nat.reduceMul, Nat.reduceSub, reduceIte, Nat.reduceLeDiff, reduceCtorEq, Int.reduceNeg, Int.reduceToNat, Int.reduceEq, Int.reduceNe, Int.reduceLT, Int.reduceLE, hr1, hc2, hr3, hx7, hi6', hw8, hr10, hr11, hc12d, hc13d, hc14d, hb15, hx16, hc17d, hb18, hx19]
                repeat' ((with_reducible refine and_bar ?_ ?_); kernel_rfl)
                refine W_cond_dec rfl (fun hc20 => ?_) (fun hc20 => ?_)
                · have hc20d := decide_eq_true hc20
                  first | rw [if_pos hc20] at h | rw [if_pos hc20d] at h | simp only [hc20d, Bool.not_true, Bool.not_false, Bool.false_eq_true, if_true, if_false] at h
                  simp (config := { maxSteps := 4000000 }) only [go_sem, Nat.reduceLT, Nat.reduceEqDiff, Nat.reduceAdd, Nat.reduceBEq, Nat.reduceMul, Nat.reduceSub, reduceIte, Nat.reduceLeDiff, reduceCtorEq, Int.reduceNeg, Int.reduceToNat, Int.reduceEq, Int.reduceNe, Int.reduceLT, Int.reduceLE, hr1, hc2, hr3, hx7, hi6', hw8, hr10, hr11, hc12d, hc13d, hc14d, hb15, hx16, hc17d, hb18, hx19, hc20d, FinW_ret]
                  repeat' ((with_reducible refine and_bar ?_ ?_); kernel_rfl)
                  obtain rfl := Option.some.inj h
                  exact ⟨_, rfl, (by repeat' (first | exact ROk.refl _ | exact ROk.nil _ | ((refine ROk.of _ ?_ ?_); (focus ((repeat' (first | exact Le.refl _ | exact LeL.nil | exact Le.nils | exact LeLL.refl _ | refine LeLL.mapAppend ?_ ?_ | refine LeLL.cons ?_ ?_ | refine Le.sl ?_ | refine Le.tup ?_ | refine Le.agg ?_ | refine LeL.cons ?_ ?_)); done)); (focus ((repeat' (first | exact NoOwn.val _ | exact NoOwn.sl _ _ _ _ | refine NoOwn.tup ?_ | refine NoOwn.agg ?_ | exact noOwn_nil | refine noOwn_cons ?_ ?_)); done))) | ((refine ROk.own ?_ ?_); (focus ((repeat' (first | exact Le.refl _ | exact LeL.nil | exact Le.nils | exact LeLL.refl _ | refine LeLL.mapAppend ?_ ?_ | refine LeLL.cons ?_ ?_ | refine Le.sl ?_ | refine Le.tup ?_ | refine Le.agg ?_ | refine LeL.cons ?_ ?_)); done)); (focus ((first | exact RowOk.noOwn Load.row_ok _ | exact RowOk.noOwn LoadMove.row_ok _); done))) | refine ROk.agg rfl ?_ | refine ROk.tup rfl ?_ | exact rok_nil | refine rok_cons ?_ ?_)), (by (repeat' (first | exact PureC.val _ | refine PureC.tup ?_ | refine PureC.agg ?_ | exact pure_nil | refine pure_cons ?_ ?_ | refine PureC.sl ?_ | exact pure_rows Load.row_pure _ | exact pure_rows LoadMove.row_pure _ |  exact pure_rows_nil | refine pure_rows_append ?_ ?_ | refine pure_rows_cons ?_ ?_)))⟩
                · have hc20d := decide_eq_false hc20
                  first | rw [if_neg hc20] at h | rw [if_neg (ne_true_of_eq_false hc20d)] at h | simp only [hc20d, Bool.not_true, Bool.not_false, Bool.false_eq_true, if_true, if_false] at h
                  unfold balance_Apply_J3 at h
                  obtain ⟨x7, hb21, hx22, h⟩ := gx_some h
                  obtain rfl := get_same hx16 hx22
                  have hx24 := set_get (y := (Load.mk x5.Member (IntKind.i64.wrap (x5.Actors - 1)))) hx16
                  obtain ⟨x8, hb25, hx26, h⟩ := gx_some h
                  have hx28 := set_get (y := (Load.mk x8.Member (IntKind.i64.wrap (x8.Actors + 1)))) hx26
                  simp (config := { maxSteps := 4000000 }) only [go_sem, Nat.reduceLT, Nat.reduceEqDiff, Nat.reduceAdd, Nat.reduceBEq, Nat.reduceMul, Nat.reduceSub, reduceIte, Nat.reduceLeDiff, reduceCtorEq, Int.reduceNeg, Int.reduceToNat, Int.reduceEq, Int.reduceNe, Int.reduceLT, Int.reduceLE, hr1, hc2, hr3, hx7, hi6', hw8, hr10, hr11, hc12d, hc13d, hc14d, hb15, hx16, hc17d, hb18, hx19, hc20d, hb21, map_modify2 (row := Load.row) (y := (Load.mk x5.Member (IntKind.i64.wrap (x5.Actors - 1)))) (rx := [.val (.int .i64 x5.Member), .val (.int .i64 x5.Actors)]) (ry := [.val (.int .i64 x5.Member), .val (.int .i64 (IntKind.i64.wrap (x5.Actors - 1)))]) hx16 rfl rfl, hx24, hb25, hx26, map_modify2 (row := Load.row) (y := (Load.mk x8.Member (IntKind.i64.wrap (x8.Actors + 1)))) (rx := [.val (.int .i64 x8.Member), .val (.int .i64 x8.Actors)]) (ry := [.val (.int .i64 x8.Member), .val (.int .i64 (IntKind.i64.wrap (x8.Actors + 1)))]) hx26 rfl rfl, hx28]
                  repeat' ((with_reducible refine and_bar ?_ ?_); kernel_rfl)
                  first | refine ⟨((l5.set ((r3).toNat) (Load.mk x5.Member (IntKind.i64.wrap (x5.Actors - 1)))).set ((r4).toNat) (Load.mk x8.Member (IntKind.i64.wrap (x8.Actors + 1)))), ?_, h⟩ | refine ⟨hi6', ((l5.set ((r3).toNat) (Load.mk x5.Member (IntKind.i64.wrap (x5.Actors - 1)))).set ((r4).toNat) (Load.mk x8.Member (IntKind.i64.wrap (x8.Actors + 1)))), ?_, h⟩
                  refine weak_roots ?_ ?_
                  · (repeat' (first | exact weakX_nil | refine weakX_cons ?_ ?_)) <;> (first | rfl | simp only [go_sem, Nat.reduceLT, Nat.reduceEqDiff, Nat.reduceAdd, Nat.reduceBEq, Nat.reduceMul, Nat.reduceSub, reduceIte, Nat.reduceLeDiff, reduceCtorEq, Int.reduceNeg, Int.reduceToNat, Int.reduceEq, Int.reduceNe, Int.reduceLT, Int.reduceLE, Bool.or_self, List.length_set, Int.natCast_zero, Int.cast_ofNat_Int, hr1, hc2, hr3, hx7, hi6', hw8, hr10, hr11, hc12d, hc13d, hc14d, hb15, hx16, hc17d, hb18, hx19, hc20d, hb21, map_modify2 (row := Load.row) (y := (Load.mk x5.Member (IntKind.i64.wrap (x5.Actors - 1)))) (rx := [.val (.int .i64 x5.Member), .val (.int .i64 x5.Actors)]) (ry := [.val (.int .i64 x5.Member), .val (.int .i64 (IntKind.i64.wrap (x5.Actors - 1)))]) hx16 rfl rfl, hx24, hb25, hx26, map_modify2 (row := Load.row) (y := (Load.mk x8.Member (IntKind.i64.wrap (x8.Actors + 1)))) (rx := [.val (.int .i64 x8.Member), .val (.int .i64 x8.Actors)]) (ry := [.val (.int .i64 x8.Member), .val (.int .i64 (IntKind.i64.wrap (x8.Actors + 1)))]) hx26 rfl rfl, hx28])
                  · (repeat' (first | exact weakR_nil | refine weakR_cons ?_ ?_ ?_)) <;> (first | rfl | simp only [go_sem, Nat.reduceLT, Nat.reduceEqDiff, Nat.reduceAdd, Nat.reduceBEq, Nat.reduceMul, Nat.reduceSub, reduceIte, Nat.reduceLeDiff, reduceCtorEq, Int.reduceNeg, Int.reduceToNat, Int.reduceEq, Int.reduceNe, Int.reduceLT, Int.reduceLE, Bool.or_self, List.length_set, Int.natCast_zero, Int.cast_ofNat_Int, hr1, hc2, hr3, hx7, hi6', hw8, hr10, hr11, hc12d, hc13d, hc14d, hb15, hx16, hc17d, hb18, hx19, hc20d, hb21, map_modify2 (row := Load.row) (y := (Load.mk x5.Member (IntKind.i64.wrap (x5.Actors - 1)))) (rx := [.val (.int .i64 x5.Member), .val (.int .i64 x5.Actors)]) (ry := [.val (.int .i64 x5.Member), .val (.int .i64 (IntKind.i64.wrap (x5.Actors - 1)))]) hx16 rfl rfl, hx24, hb25, hx26, map_modify2 (row := Load.row) (y := (Load.mk x8.Member (IntKind.i64.wrap (x8.Actors + 1)))) (rx := [.val (.int .i64 x8.Member), .val (.int .i64 x8.Actors)]) (ry := [.val (.int .i64 x8.Member), .val (.int .i64 (IntKind.i64.wrap (x8.Actors + 1)))]) hx26 rfl rfl, hx28])
      · rw [hd9] at h
        simp only [balance_Apply_L1] at h
        simp (config := { maxSteps := 4000000 }) only [go_sem, Nat.reduceLT, Nat.reduceEqDiff, Nat.reduceAdd, Nat.reduceBEq, Nat.reduceMul, Nat.reduceSub, reduceIte, Nat.reduceLeDiff, reduceCtorEq, Int.reduceNeg, Int.reduceToNat, Int.reduceEq, Int.reduceNe, Int.reduceLT, Int.reduceLE, hr1, hc2, hr3, hi6']
        repeat' ((with_reducible refine and_bar ?_ ?_); kernel_rfl)
        refine W_cond_f rfl ?_
        simp (config := { maxSteps := 4000000 }) only [go_sem, Nat.reduceLT, Nat.reduceEqDiff, Nat.reduceAdd, Nat.reduceBEq, Nat.reduceMul, Nat.reduceSub, reduceIte, Nat.reduceLeDiff, reduceCtorEq, Int.reduceNeg, Int.reduceToNat, Int.reduceEq, Int.reduceNe, Int.reduceLT, Int.reduceLE, hr1, hc2, hr3, hi6', FinW_ret]
        repeat' ((with_reducible refine and_bar ?_ ?_); kernel_rfl)
        obtain rfl := Option.some.inj h
        exact ⟨_, rfl, (by repeat' (first | exact ROk.refl _ | exact ROk.nil _ | ((refine ROk.of _ ?_ ?_); (focus ((repeat' (first | exact Le.refl _ | exact LeL.nil | exact Le.nils | exact LeLL.refl _ | refine LeLL.mapAppend ?_ ?_ | refine LeLL.cons ?_ ?_ | refine Le.sl ?_ | refine Le.tup ?_ | refine Le.agg ?_ | refine LeL.cons ?_ ?_)); done)); (focus ((repeat' (first | exact NoOwn.val _ | exact NoOwn.sl _ _ _ _ | refine NoOwn.tup ?_ | refine NoOwn.agg ?_ | exact noOwn_nil | refine noOwn_cons ?_ ?_)); done))) | ((refine ROk.own ?_ ?_); (focus ((repeat' (first | exact Le.refl _ | exact LeL.nil | exact Le.nils | exact LeLL.refl _ | refine LeLL.mapAppend ?_ ?_ | refine LeLL.cons ?_ ?_ | refine Le.sl ?_ | refine Le.tup ?_ | refine Le.agg ?_ | refine LeL.cons ?_ ?_)); done)); (focus ((first | exact RowOk.noOwn Load.row_ok _ | exact RowOk.noOwn LoadMove.row_ok _); done))) | refine ROk.agg rfl ?_ | refine ROk.tup rfl ?_ | exact rok_nil | refine rok_cons ?_ ?_)), (by (repeat' (first | exact PureC.val _ | refine PureC.tup ?_ | refine PureC.agg ?_ | exact pure_nil | refine pure_cons ?_ ?_ | refine PureC.sl ?_ | exact pure_rows Load.row_pure _ | exact pure_rows LoadMove.row_pure _ |  exact pure_rows_nil | refine pure_rows_append ?_ ?_ | refine pure_rows_cons ?_ ?_)))⟩
def fs_balance_Apply (N : Nat) : FnS := { own := [], pure := true, fn := fun cs => match cs with
  | [c0, c1] => ((decL 2 Load.dec) c0).bind fun qc0 => ((decL 2 LoadMove.dec) c1).bind fun qc1 => (balance_Apply N qc0 qc1).map fun r => .tup [.sl false none 2 none (r.1.map Load.row), .val (.int .i64 r.2)]
  | _ => none }
theorem fs_balance_Apply_own (N : Nat) : (fs_balance_Apply N).own = [] := rfl
theorem fs_balance_Apply_pure (N : Nat) : (fs_balance_Apply N).pure = true := rfl
attribute [go_sem] fs_balance_Apply fs_balance_Apply_own fs_balance_Apply_pure
theorem fs_balance_Apply_ok (N : Nat) : FSOk Try.prog 11 (fs_balance_Apply N) := by
  refine ⟨fun cs r h => ?_, fun h => by cases h⟩
  simp only [fs_balance_Apply] at h
  split at h
  · simp only [Option.bind_eq_some_iff, Option.map_eq_some_iff] at h
    obtain ⟨q0, h0, q1, h1, r', hr, rfl⟩ := h
    exact (((w_balance_Apply N q0 q1 r' hr).args (LeL.cons (decL_le Load.dec_le h0) (LeL.cons (decL_le LoadMove.dec_le h1) (LeL.nil)))).res (by repeat' (first | exact ROk.refl _ | exact ROk.nil _ | ((refine ROk.of _ ?_ ?_); (focus ((repeat' (first | exact Le.refl _ | exact LeL.nil | exact Le.nils | exact LeLL.refl _ | refine LeLL.mapAppend ?_ ?_ | refine LeLL.cons ?_ ?_ | refine Le.sl ?_ | refine Le.tup ?_ | refine Le.agg ?_ | refine LeL.cons ?_ ?_)); done)); (focus ((repeat' (first | exact NoOwn.val _ | exact NoOwn.sl _ _ _ _ | refine NoOwn.tup ?_ | refine NoOwn.agg ?_ | exact noOwn_nil | refine noOwn_cons ?_ ?_)); done))) | ((refine ROk.own ?_ ?_); (focus ((repeat' (first | exact Le.refl _ | exact LeL.nil | exact Le.nils | exact LeLL.refl _ | refine LeLL.mapAppend ?_ ?_ | refine LeLL.cons ?_ ?_ | refine Le.sl ?_ | refine Le.tup ?_ | refine Le.agg ?_ | refine LeL.cons ?_ ?_)); done)); (focus ((first | exact RowOk.noOwn Load.row_ok _ | exact RowOk.noOwn LoadMove.row_ok _); done))) | refine ROk.agg rfl ?_ | refine ROk.tup rfl ?_ | exact rok_nil | refine rok_cons ?_ ?_)))
  · cases h

def fso_balance_Apply (N : Nat) : FnS := { own := [], pure := true, fn := fun cs => match cs with
  | [c0, c1] => ((decL 2 Load.dec) c0).bind fun qc0 => ((decL 2 LoadMove.dec) c1).bind fun qc1 => (balance_Apply N qc0 qc1).map fun r => .tup [.sl true none 2 none (r.1.map Load.row), .val (.int .i64 r.2)]
  | _ => none }
theorem fso_balance_Apply_own (N : Nat) : (fso_balance_Apply N).own = [] := rfl
theorem fso_balance_Apply_pure (N : Nat) : (fso_balance_Apply N).pure = true := rfl
attribute [go_sem] fso_balance_Apply fso_balance_Apply_own fso_balance_Apply_pure
theorem fso_balance_Apply_ok (N : Nat) : FSOk Try.prog 11 (fso_balance_Apply N) := by
  refine ⟨fun cs r h => ?_, fun h => by cases h⟩
  simp only [fso_balance_Apply] at h
  split at h
  · simp only [Option.bind_eq_some_iff, Option.map_eq_some_iff] at h
    obtain ⟨q0, h0, q1, h1, r', hr, rfl⟩ := h
    exact ((w_balance_Apply N q0 q1 r' hr).args (LeL.cons (decL_le Load.dec_le h0) (LeL.cons (decL_le LoadMove.dec_le h1) (LeL.nil))))
  · cases h

end Go.Proofs.Ytpbloecedgddlaa
end

section
set_option linter.unusedSimpArgs false
set_option linter.unusedVariables false
set_option maxRecDepth 100000
namespace Go.Proofs.Ytpbloecedgddlaa
open Go Go.Proofs Go.Abs
noncomputable def E_balance_Place (N : Nat) : Env := { T := tiOf Try.prog, G := fun d f => if d = 8 ∧ f = 14 then some (fs_balance_Valid N) else if d = 12 ∧ f = 30 then some (fs_balance_extremes N) else if d = 22 ∧ f = 31 then some (fso_slices_Clone_Load N) else none }
theorem E_balance_Place_T (N : Nat) : (E_balance_Place N).T = tiOf Try.prog := rfl
theorem E_balance_Place_G0 (N : Nat) : (E_balance_Place N).G 8 14 = some (fs_balance_Valid N) := rfl
theorem E_balance_Place_G1 (N : Nat) : (E_balance_Place N).G 12 30 = some (fs_balance_extremes N) := rfl
theorem E_balance_Place_G2 (N : Nat) : (E_balance_Place N).G 22 31 = some (fso_slices_Clone_Load N) := rfl
theorem E_balance_Place_ok (N : Nat) : GOk Try.prog { T := tiOf Try.prog, G := (E_balance_Place N).G } := by
  intro d f fs hfs
  simp only [E_balance_Place] at hfs
  by_cases hc : d = 8 ∧ f = 14
  · rw [if_pos hc] at hfs; obtain ⟨rfl, rfl⟩ := hc; obtain rfl := Option.some.inj hfs; exact fs_balance_Valid_ok N
  rw [if_neg hc] at hfs
  by_cases hc : d = 12 ∧ f = 30
  · rw [if_pos hc] at hfs; obtain ⟨rfl, rfl⟩ := hc; obtain rfl := Option.some.inj hfs; exact fs_balance_extremes_ok N
  rw [if_neg hc] at hfs
  by_cases hc : d = 22 ∧ f = 31
  · rw [if_pos hc] at hfs; obtain ⟨rfl, rfl⟩ := hc; obtain rfl := Option.some.inj hfs; exact fso_slices_Clone_Load_ok N
  rw [if_neg hc] at hfs
  cases hfs
theorem fo_balance_Place : FunOk Try.prog 9 Try.f9 Try.f9.body.get! := ⟨Try.func9, rfl, by decide, by kernel_rfl⟩
attribute [go_sem] E_balance_Place_T E_balance_Place_G0 E_balance_Place_G1 E_balance_Place_G2
set_option maxHeartbeats 4000000 in
theorem w_balance_Place (N : Nat) (a0 : (List Load)) (r : (List Load) × Int × Int) (h : balance_Place N a0 = some r) : Con Try.prog 9 [] true [.sl false none 2 none (a0.map Load.row)] (.tup [.sl true none 2 none (r.1.map Load.row), .val (.int .i64 r.2.1), .val (.int .i64 r.2.2)]) := by
  refine fun_ok2 (E := E_balance_Place N) (tiOf_ok Try.prog _) (E_balance_Place_ok N) mix fo_balance_Place (Nat.le_of_ble_eq_true rfl) ?_
  intro _
  rw [entry_tab (by simp)]
  rw [show entryF [] [.sl false none 2 none (a0.map Load.row)] = (updT deadT 0 (.sl false none 2 none (a0.map Load.row))) from by funext t; match t with | 0 => rfl | t + 1 => rfl]
  apply W_start
  simp only [Try.f9, Option.get!, R0_RZ]
  unfold balance_Place at h
  obtain ⟨r1, hr1, h⟩ := Option.bind_eq_some_iff.1 h
  simp (config := { maxSteps := 4000000 }) only [go_sem, Nat.reduceLT, Nat.reduceEqDiff, Nat.reduceAdd, Nat.reduceBEq, Nat.reduceMul, Nat.reduceSub, reduceIte, Nat.reduceLeDiff, reduceCtorEq, Int.reduceNeg, Int.reduceToNat, Int.reduceEq, Int.reduceNe, Int.reduceLT, Int.reduceLE, hr1]
  repeat' ((with_reducible refine and_bar ?_ ?_); kernel_rfl)
  refine W_cond_nbool rfl (fun hc2 => ?_) (fun hc2 => ?_)
  · first | rw [if_neg (ne_true_of_eq_false hc2)] at h | simp only [hc2, Bool.or_false, Bool.or_true, Bool.false_or, Bool.true_or, Bool.and_true, Bool.true_and, Bool.and_false, Bool.false_and, Bool.not_true, Bool.not_false, Bool.false_eq_true, if_true, if_false] at h
    simp (config := { maxSteps := 4000000 }) only [go_sem, Nat.reduceLT, Nat.reduceEqDiff, Nat.reduceAdd, Nat.reduceBEq, Nat.reduceMul, Nat.reduceSub, reduceIte, Nat.reduceLeDiff, reduceCtorEq, Int.reduceNeg, Int.reduceToNat, Int.reduceEq, Int.reduceNe, Int.reduceLT, Int.reduceLE, hr1, hc2, FinW_ret]
    repeat' ((with_reducible refine and_bar ?_ ?_); kernel_rfl)
    obtain rfl := Option.some.inj h
    exact ⟨_, rfl, (by repeat' (first | exact ROk.refl _ | exact ROk.nil _ | ((refine ROk.of _ ?_ ?_); (focus ((repeat' (first | exact Le.refl _ | exact LeL.nil | exact Le.nils | exact LeLL.refl _ | refine LeLL.mapAppend ?_ ?_ | refine LeLL.cons ?_ ?_ | refine Le.sl ?_ | refine Le.tup ?_ | refine Le.agg ?_ | refine LeL.cons ?_ ?_)); done)); (focus ((repeat' (first | exact NoOwn.val _ | exact NoOwn.sl _ _ _ _ | refine NoOwn.tup ?_ | refine NoOwn.agg ?_ | exact noOwn_nil | refine noOwn_cons ?_ ?_)); done))) | ((refine ROk.own ?_ ?_); (focus ((repeat' (first | exact Le.refl _ | exact LeL.nil | exact Le.nils | exact LeLL.refl _ | refine LeLL.mapAppend ?_ ?_ | refine LeLL.cons ?_ ?_ | refine Le.sl ?_ | refine Le.tup ?_ | refine Le.agg ?_ | refine LeL.cons ?_ ?_)); done)); (focus ((first | exact RowOk.noOwn Load.row_ok _); done))) | refine ROk.agg rfl ?_ | refine ROk.tup rfl ?_ | exact rok_nil | refine rok_cons ?_ ?_)), (by (repeat' (first | exact PureC.val _ | refine PureC.tup ?_ | refine PureC.agg ?_ | exact pure_nil | refine pure_cons ?_ ?_ | refine PureC.sl ?_ | exact pure_rows Load.row_pure _ |  exact pure_rows_nil | refine pure_rows_append ?_ ?_ | refine pure_rows_cons ?_ ?_)))⟩
  · first | rw [if_pos hc2] at h | simp only [hc2, Bool.or_false, Bool.or_true, Bool.false_or, Bool.true_or, Bool.and_true, Bool.true_and, Bool.and_false, Bool.false_and, Bool.not_true, Bool.not_false, Bool.false_eq_true, if_true, if_false] at h
    obtain ⟨r2, hr3, h⟩ := Option.bind_eq_some_iff.1 h
    obtain ⟨x3, hb4, hx5, h⟩ := gx_some h
    simp (config := { maxSteps := 4000000 }) only [go_sem, Nat.reduceLT, Nat.reduceEqDiff, Nat.reduceAdd, Nat.reduceBEq, Nat.reduceMul, Nat.reduceSub, reduceIte, Nat.reduceLeDiff, reduceCtorEq, Int.reduceNeg, Int.reduceToNat, Int.reduceEq, Int.reduceNe, Int.reduceLT, Int.reduceLE, hr1, hc2, hr3, hb4, hx5]
    repeat' ((with_reducible refine and_bar ?_ ?_); kernel_rfl)
    refine W_cond_dec rfl (fun hc6 => ?_) (fun hc6 => ?_)
    · have hc6d := decide_eq_true hc6
      first | rw [if_pos hc6] at h | rw [if_pos hc6d] at h | simp only [hc6d, Bool.not_true, Bool.not_false, Bool.false_eq_true, if_true, if_false] at h
      simp (config := { maxSteps := 4000000 }) only [go_sem, Nat.reduceLT, Nat.reduceEqDiff, Nat.reduceAdd, Nat.reduceBEq, Nat.reduceMul, Nat.reduceSub, reduceIte, Nat.reduceLeDiff, reduceCtorEq, Int.reduceNeg, Int.reduceToNat, Int.reduceEq, Int.reduceNe, Int.reduceLT, Int.reduceLE, hr1, hc2, hr3, hb4, hx5, hc6d, FinW_ret]
      repeat' ((with_reducible refine and_bar ?_ ?_); kernel_rfl)
      obtain rfl := Option.some.inj h
      exact ⟨_, rfl, (by repeat' (first | exact ROk.refl _ | exact ROk.nil _ | ((refine ROk.of _ ?_ ?_); (focus ((repeat' (first | exact Le.refl _ | exact LeL.nil | exact Le.nils | exact LeLL.refl _ | refine LeLL.mapAppend ?_ ?_ | refine LeLL.cons ?_ ?_ | refine Le.sl ?_ | refine Le.tup ?_ | refine Le.agg ?_ | refine LeL.cons ?_ ?_)); done)); (focus ((repeat' (first | exact NoOwn.val _ | exact NoOwn.sl _ _ _ _ | refine NoOwn.tup ?_ | refine NoOwn.agg ?_ | exact noOwn_nil | refine noOwn_cons ?_ ?_)); done))) | ((refine ROk.own ?_ ?_); (focus ((repeat' (first | exact Le.refl _ | exact LeL.nil | exact Le.nils | exact LeLL.refl _ | refine LeLL.mapAppend ?_ ?_ | refine LeLL.cons ?_ ?_ | refine Le.sl ?_ | refine Le.tup ?_ | refine Le.agg ?_ | refine LeL.cons ?_ ?_)); done)); (focus ((first | exact RowOk.noOwn Load.row_ok _); done))) | refine ROk.agg rfl ?_ | refine ROk.tup rfl ?_ | exact rok_nil | refine rok_cons ?_ ?_)), (by (repeat' (first | exact PureC.val _ | refine PureC.tup ?_ | refine PureC.agg ?_ | exact pure_nil | refine pure_cons ?_ ?_ | refine PureC.sl ?_ | exact pure_rows Load.row_pure _ |  exact pure_rows_nil | refine pure_rows_append ?_ ?_ | refine pure_rows_cons ?_ ?_)))⟩
    · have hc6d := decide_eq_false hc6
      first | rw [if_neg hc6] at h | rw [if_neg (ne_true_of_eq_false hc6d)] at h | simp only [hc6d, Bool.not_true, Bool.not_false, Bool.false_eq_true, if_true, if_false] at h
      obtain ⟨r4, hr7, h⟩ := Option.bind_eq_some_iff.1 h
      obtain ⟨x5, hb8, hx9, h⟩ := gx_some h
      have hx11 := set_get (y := (Load.mk x5.Member (IntKind.i64.wrap (x5.Actors + 1)))) hx9
      simp (config := { maxSteps := 4000000 }) only [go_sem, Nat.reduceLT, Nat.reduceEqDiff, Nat.reduceAdd, Nat.reduceBEq, Nat.reduceMul, Nat.reduceSub, reduceIte, Nat.reduceLeDiff, reduceCtorEq, Int.reduceNeg, Int.reduceToNat, Int.reduceEq, Int.reduceNe, Int.reduceLT, Int.reduceLE, hr1, hc2, hr3, hb4, hx5, hc6d, hr7, hb8, hx9, map_modify2 (row := Load.row) (y := (Load.mk x5.Member (IntKind.i64.wrap (x5.Actors + 1)))) (rx := [.val (.int .i64 x5.Member), .val (.int .i64 x5.Actors)]) (ry := [.val (.int .i64 x5.Member), .val (.int .i64 (IntKind.i64.wrap (x5.Actors + 1)))]) hx9 rfl rfl, hx11, FinW_ret]
      repeat' ((with_reducible refine and_bar ?_ ?_); kernel_rfl)
      obtain rfl := Option.some.inj h
      exact ⟨_, rfl, (by repeat' (first | exact ROk.refl _ | exact ROk.nil _ | ((refine ROk.of _ ?_ ?_); (focus ((repeat' (first | exact Le.refl _ | exact LeL.nil | exact Le.nils | exact LeLL.refl _ | refine LeLL.mapAppend ?_ ?_ | refine LeLL.cons ?_ ?_ | refine Le.sl ?_ | refine Le.tup ?_ | refine Le.agg ?_ | refine LeL.cons ?_ ?_)); done)); (focus ((repeat' (first | exact NoOwn.val _ | exact NoOwn.sl _ _ _ _ | refine NoOwn.tup ?_ | refine NoOwn.agg ?_ | exact noOwn_nil | refine noOwn_cons ?_ ?_)); done))) | ((refine ROk.own ?_ ?_); (focus ((repeat' (first | exact Le.refl _ | exact LeL.nil | exact Le.nils | exact LeLL.refl _ | refine LeLL.mapAppend ?_ ?_ | refine LeLL.cons ?_ ?_ | refine Le.sl ?_ | refine Le.tup ?_ | refine Le.agg ?_ | refine LeL.cons ?_ ?_)); done)); (focus ((first | exact RowOk.noOwn Load.row_ok _); done))) | refine ROk.agg rfl ?_ | refine ROk.tup rfl ?_ | exact rok_nil | refine rok_cons ?_ ?_)), (by (repeat' (first | exact PureC.val _ | refine PureC.tup ?_ | refine PureC.agg ?_ | exact pure_nil | refine pure_cons ?_ ?_ | refine PureC.sl ?_ | exact pure_rows Load.row_pure _ |  exact pure_rows_nil | refine pure_rows_append ?_ ?_ | refine pure_rows_cons ?_ ?_)))⟩
def fs_balance_Place (N : Nat) : FnS := { own := [], pure := true, fn := fun cs => match cs with
  | [c0] => ((decL 2 Load.dec) c0).bind fun qc0 => (balance_Place N qc0).map fun r => .tup [.sl false none 2 none (r.1.map Load.row), .val (.int .i64 r.2.1), .val (.int .i64 r.2.2)]
  | _ => none }
theorem fs_balance_Place_own (N : Nat) : (fs_balance_Place N).own = [] := rfl
theorem fs_balance_Place_pure (N : Nat) : (fs_balance_Place N).pure = true := rfl
attribute [go_sem] fs_balance_Place fs_balance_Place_own fs_balance_Place_pure
theorem fs_balance_Place_ok (N : Nat) : FSOk Try.prog 9 (fs_balance_Place N) := by
  refine ⟨fun cs r h => ?_, fun h => by cases h⟩
  simp only [fs_balance_Place] at h
  split at h
  · simp only [Option.bind_eq_some_iff, Option.map_eq_some_iff] at h
    obtain ⟨q0, h0, r', hr, rfl⟩ := h
    exact (((w_balance_Place N q0 r' hr).args (LeL.cons (decL_le Load.dec_le h0) (LeL.nil))).res (by repeat' (first | exact ROk.refl _ | exact ROk.nil _ | ((refine ROk.of _ ?_ ?_); (focus ((repeat' (first | exact Le.refl _ | exact LeL.nil | exact Le.nils | exact LeLL.refl _ | refine LeLL.mapAppend ?_ ?_ | refine LeLL.cons ?_ ?_ | refine Le.sl ?_ | refine Le.tup ?_ | refine Le.agg ?_ | refine LeL.cons ?_ ?_)); done)); (focus ((repeat' (first | exact NoOwn.val _ | exact NoOwn.sl _ _ _ _ | refine NoOwn.tup ?_ | refine NoOwn.agg ?_ | exact noOwn_nil | refine noOwn_cons ?_ ?_)); done))) | ((refine ROk.own ?_ ?_); (focus ((repeat' (first | exact Le.refl _ | exact LeL.nil | exact Le.nils | exact LeLL.refl _ | refine LeLL.mapAppend ?_ ?_ | refine LeLL.cons ?_ ?_ | refine Le.sl ?_ | refine Le.tup ?_ | refine Le.agg ?_ | refine LeL.cons ?_ ?_)); done)); (focus ((first | exact RowOk.noOwn Load.row_ok _); done))) | refine ROk.agg rfl ?_ | refine ROk.tup rfl ?_ | exact rok_nil | refine rok_cons ?_ ?_)))
  · cases h

def fso_balance_Place (N : Nat) : FnS := { own := [], pure := true, fn := fun cs => match cs with
  | [c0] => ((decL 2 Load.dec) c0).bind fun qc0 => (balance_Place N qc0).map fun r => .tup [.sl true none 2 none (r.1.map Load.row), .val (.int .i64 r.2.1), .val (.int .i64 r.2.2)]
  | _ => none }
theorem fso_balance_Place_own (N : Nat) : (fso_balance_Place N).own = [] := rfl
theorem fso_balance_Place_pure (N : Nat) : (fso_balance_Place N).pure = true := rfl
attribute [go_sem] fso_balance_Place fso_balance_Place_own fso_balance_Place_pure
theorem fso_balance_Place_ok (N : Nat) : FSOk Try.prog 9 (fso_balance_Place N) := by
  refine ⟨fun cs r h => ?_, fun h => by cases h⟩
  simp only [fso_balance_Place] at h
  split at h
  · simp only [Option.bind_eq_some_iff, Option.map_eq_some_iff] at h
    obtain ⟨q0, h0, r', hr, rfl⟩ := h
    exact ((w_balance_Place N q0 r' hr).args (LeL.cons (decL_le Load.dec_le h0) (LeL.nil)))
  · cases h

end Go.Proofs.Ytpbloecedgddlaa
end

section
set_option linter.unusedSimpArgs false
set_option linter.unusedVariables false
set_option maxRecDepth 100000
namespace Go.Proofs.Ytpbloecedgddlaa
open Go Go.Proofs Go.Abs
noncomputable def E_law35_awake (N : Nat) : Env := { T := tiOf Try.prog, G := fun d f => if d = 12 ∧ f = 27 then some (fs_balance_Plan N) else if d = 25 ∧ f = 24 then some (fs_balance_Needed N) else if d = 30 ∧ f = 20 then some (fs_balance_Spread N) else if d = 35 ∧ f = 22 then some (fs_balance_Total N) else if d = 40 ∧ f = 16 then some (fs_balance_Least N) else if d = 45 ∧ f = 18 then some (fs_balance_Most N) else if d = 51 ∧ f = 11 then some (fs_balance_Apply N) else if d = 84 ∧ f = 9 then some (fs_balance_Place N) else if d = 96 ∧ f = 14 then some (fs_balance_Valid N) else none }
theorem E_law35_awake_T (N : Nat) : (E_law35_awake N).T = tiOf Try.prog := rfl
theorem E_law35_awake_G0 (N : Nat) : (E_law35_awake N).G 12 27 = some (fs_balance_Plan N) := rfl
theorem E_law35_awake_G1 (N : Nat) : (E_law35_awake N).G 25 24 = some (fs_balance_Needed N) := rfl
theorem E_law35_awake_G2 (N : Nat) : (E_law35_awake N).G 30 20 = some (fs_balance_Spread N) := rfl
theorem E_law35_awake_G3 (N : Nat) : (E_law35_awake N).G 35 22 = some (fs_balance_Total N) := rfl
theorem E_law35_awake_G4 (N : Nat) : (E_law35_awake N).G 40 16 = some (fs_balance_Least N) := rfl
theorem E_law35_awake_G5 (N : Nat) : (E_law35_awake N).G 45 18 = some (fs_balance_Most N) := rfl
theorem E_law35_awake_G6 (N : Nat) : (E_law35_awake N).G 51 11 = some (fs_balance_Apply N) := rfl
theorem E_law35_awake_G7 (N : Nat) : (E_law35_awake N).G 84 9 = some (fs_balance_Place N) := rfl
theorem E_law35_awake_G8 (N : Nat) : (E_law35_awake N).G 96 14 = some (fs_balance_Valid N) := rfl
theorem E_law35_awake_ok (N : Nat) : GOk Try.prog { T := tiOf Try.prog, G := (E_law35_awake N).G } := by
  intro d f fs hfs
  simp only [E_law35_awake] at hfs
  by_cases hc : d = 12 ∧ f = 27
  · rw [if_pos hc] at hfs; obtain ⟨rfl, rfl⟩ := hc; obtain rfl := Option.some.inj hfs; exact fs_balance_Plan_ok N
  rw [if_neg hc] at hfs
  by_cases hc : d = 25 ∧ f = 24
  · rw [if_pos hc] at hfs; obtain ⟨rfl, rfl⟩ := hc; obtain rfl := Option.some.inj hfs; exact fs_balance_Needed_ok N
  rw [if_neg hc] at hfs
  by_cases hc : d = 30 ∧ f = 20
  · rw [if_pos hc] at hfs; obtain ⟨rfl, rfl⟩ := hc; obtain rfl := Option.some.inj hfs; exact fs_balance_Spread_ok N
  rw [if_neg hc] at hfs
  by_cases hc : d = 35 ∧ f = 22
  · rw [if_pos hc] at hfs; obtain ⟨rfl, rfl⟩ := hc; obtain rfl := Option.some.inj hfs; exact fs_balance_Total_ok N
  rw [if_neg hc] at hfs
  by_cases hc : d = 40 ∧ f = 16
  · rw [if_pos hc] at hfs; obtain ⟨rfl, rfl⟩ := hc; obtain rfl := Option.some.inj hfs; exact fs_balance_Least_ok N
  rw [if_neg hc] at hfs
  by_cases hc : d = 45 ∧ f = 18
  · rw [if_pos hc] at hfs; obtain ⟨rfl, rfl⟩ := hc; obtain rfl := Option.some.inj hfs; exact fs_balance_Most_ok N
  rw [if_neg hc] at hfs
  by_cases hc : d = 51 ∧ f = 11
  · rw [if_pos hc] at hfs; obtain ⟨rfl, rfl⟩ := hc; obtain rfl := Option.some.inj hfs; exact fs_balance_Apply_ok N
  rw [if_neg hc] at hfs
  by_cases hc : d = 84 ∧ f = 9
  · rw [if_pos hc] at hfs; obtain ⟨rfl, rfl⟩ := hc; obtain rfl := Option.some.inj hfs; exact fs_balance_Place_ok N
  rw [if_neg hc] at hfs
  by_cases hc : d = 96 ∧ f = 14
  · rw [if_pos hc] at hfs; obtain ⟨rfl, rfl⟩ := hc; obtain rfl := Option.some.inj hfs; exact fs_balance_Valid_ok N
  rw [if_neg hc] at hfs
  cases hfs
theorem fo_law35_awake : FunOk Try.prog 8 Try.f8 Try.f8.body.get! := ⟨Try.func8, rfl, by decide, by kernel_rfl⟩
attribute [go_sem] E_law35_awake_T E_law35_awake_G0 E_law35_awake_G1 E_law35_awake_G2 E_law35_awake_G3 E_law35_awake_G4 E_law35_awake_G5 E_law35_awake_G6 E_law35_awake_G7 E_law35_awake_G8
set_option maxHeartbeats 4000000 in
theorem w_law35_awake (N : Nat)  (r : Bool) (h : law35_awake N  = some r) : Con Try.prog 8 [] true [] (.val (.bool r)) := by
  refine fun_ok2 (E := E_law35_awake N) (tiOf_ok Try.prog _) (E_law35_awake_ok N) mix fo_law35_awake (Nat.le_of_ble_eq_true rfl) ?_
  intro _
  rw [entry_tab (by simp)]
  rw [show entryF [] [] = deadT from by funext t; match t with  | t + 0 => rfl]
  apply W_start
  simp only [Try.f8, Option.get!, R0_RZ]
  unfold law35_awake at h
  obtain ⟨r1, hr1, h⟩ := Option.bind_eq_some_iff.1 h
  simp (config := { maxSteps := 4000000 }) only [go_sem, Nat.reduceLT, Nat.reduceEqDiff, Nat.reduceAdd, Nat.reduceBEq, Nat.reduceMul, Nat.reduceSub, reduceIte, Nat.reduceLeDiff, reduceCtorEq, Int.reduceNeg, Int.reduceToNat, Int.reduceEq, Int.reduceNe, Int.reduceLT, Int.reduceLE, hr1]
  refine RX_guard_ndec rfl (fun hc2 => ?_) (fun hc2 => ?_)
  · have hc2d := decide_eq_false hc2
    first | rw [if_neg hc2] at h | rw [if_neg (ne_true_of_eq_false hc2d)] at h | simp only [hc2d, Bool.not_true, Bool.not_false, Bool.false_eq_true, if_true, if_false] at h
    unfold law35_awake_J1 at h
    simp (config := { maxSteps := 4000000 }) only [go_sem, Nat.reduceLT, Nat.reduceEqDiff, Nat.reduceAdd, Nat.reduceBEq, Nat.reduceMul, Nat.reduceSub, reduceIte, Nat.reduceLeDiff, reduceCtorEq, Int.reduceNeg, Int.reduceToNat, Int.reduceEq, Int.reduceNe, Int.reduceLT, Int.reduceLE, hr1, hc2d]
    refine W_cond_t rfl ?_
    first | rw [if_pos (rfl : true = true)] at h | rw [if_neg Bool.false_ne_true] at h | skip
    simp (config := { maxSteps := 4000000 }) only [go_sem, Nat.reduceLT, Nat.reduceEqDiff, Nat.reduceAdd, Nat.reduceBEq, Nat.reduceMul, Nat.reduceSub, reduceIte, Nat.reduceLeDiff, reduceCtorEq, Int.reduceNeg, Int.reduceToNat, Int.reduceEq, Int.reduceNe, Int.reduceLT, Int.reduceLE, hr1, hc2d, FinW_ret]
    obtain rfl := Option.some.inj h
    exact ⟨_, rfl, (by exact ROk.refl _), (by repeat' (first | exact PureC.val _ | refine PureC.tup ?_ | refine PureC.agg ?_ | exact pure_nil | refine pure_cons ?_ ?_))⟩
  · have hc2d := decide_eq_true hc2
    first | rw [if_pos hc2] at h | rw [if_pos hc2d] at h | simp only [hc2d, Bool.not_true, Bool.not_false, Bool.false_eq_true, if_true, if_false] at h
    obtain ⟨x2, hb3, hx4, h⟩ := gx_some h
    try simp only [Int.toNat_natCast, Int.reduceToNat, Int.toNat_zero] at hx4
    try simp only [Int.ofNat_lt, Int.natCast_nonneg, true_and] at hb3
    simp (config := { maxSteps := 4000000 }) only [go_sem, Nat.reduceLT, Nat.reduceEqDiff, Nat.reduceAdd, Nat.reduceBEq, Nat.reduceMul, Nat.reduceSub, reduceIte, Nat.reduceLeDiff, reduceCtorEq, Int.reduceNeg, Int.reduceToNat, Int.reduceEq, Int.reduceNe, Int.reduceLT, Int.reduceLE, hr1, hc2d, hb3, hx4]
    refine RX_guard_nbool rfl (fun hc5 => ?_) (fun hc5 => ?_)
    · first | rw [if_neg (ne_true_of_eq_false hc5)] at h | simp only [hc5, Bool.or_false, Bool.or_true, Bool.false_or, Bool.true_or, Bool.and_true, Bool.true_and, Bool.and_false, Bool.false_and, Bool.not_true, Bool.not_false, Bool.false_eq_true, if_true, if_false] at h
      unfold law35_awake_J1 at h
      simp (config := { maxSteps := 4000000 }) only [go_sem, Nat.reduceLT, Nat.reduceEqDiff, Nat.reduceAdd, Nat.reduceBEq, Nat.reduceMul, Nat.reduceSub, reduceIte, Nat.reduceLeDiff, reduceCtorEq, Int.reduceNeg, Int.reduceToNat, Int.reduceEq, Int.reduceNe, Int.reduceLT, Int.reduceLE, hr1, hc2d, hb3, hx4, hc5]
      refine W_cond_t rfl ?_
      first | rw [if_pos (rfl : true = true)] at h | rw [if_neg Bool.false_ne_true] at h | skip
      simp (config := { maxSteps := 4000000 }) only [go_sem, Nat.reduceLT, Nat.reduceEqDiff, Nat.reduceAdd, Nat.reduceBEq, Nat.reduceMul, Nat.reduceSub, reduceIte, Nat.reduceLeDiff, reduceCtorEq, Int.reduceNeg, Int.reduceToNat, Int.reduceEq, Int.reduceNe, Int.reduceLT, Int.reduceLE, hr1, hc2d, hb3, hx4, hc5, FinW_ret]
      obtain rfl := Option.some.inj h
      exact ⟨_, rfl, (by exact ROk.refl _), (by repeat' (first | exact PureC.val _ | refine PureC.tup ?_ | refine PureC.agg ?_ | exact pure_nil | refine pure_cons ?_ ?_))⟩
    · first | rw [if_pos hc5] at h | simp only [hc5, Bool.or_false, Bool.or_true, Bool.false_or, Bool.true_or, Bool.and_true, Bool.true_and, Bool.and_false, Bool.false_and, Bool.not_true, Bool.not_false, Bool.false_eq_true, if_true, if_false] at h
      obtain ⟨r3, hr6, h⟩ := Option.bind_eq_some_iff.1 h
      simp (config := { maxSteps := 4000000 }) only [go_sem, Nat.reduceLT, Nat.reduceEqDiff, Nat.reduceAdd, Nat.reduceBEq, Nat.reduceMul, Nat.reduceSub, reduceIte, Nat.reduceLeDiff, reduceCtorEq, Int.reduceNeg, Int.reduceToNat, Int.reduceEq, Int.reduceNe, Int.reduceLT, Int.reduceLE, hr1, hc2d, hb3, hx4, hc5, hr6]
      refine RX_guard_ndec rfl (fun hc7 => ?_) (fun hc7 => ?_)
      · have hc7d := decide_eq_false hc7
        first | rw [if_neg hc7] at h | rw [if_neg (ne_true_of_eq_false hc7d)] at h | simp only [hc7d, Bool.not_true, Bool.not_false, Bool.false_eq_true, if_true, if_false] at h
        unfold law35_awake_J1 at h
        simp (config := { maxSteps := 4000000 }) only [go_sem, Nat.reduceLT, Nat.reduceEqDiff, Nat.reduceAdd, Nat.reduceBEq, Nat.reduceMul, Nat.reduceSub, reduceIte, Nat.reduceLeDiff, reduceCtorEq, Int.reduceNeg, Int.reduceToNat, Int.reduceEq, Int.reduceNe, Int.reduceLT, Int.reduceLE, hr1, hc2d, hb3, hx4, hc5, hr6, hc7d]
        refine W_cond_t rfl ?_
        first | rw [if_pos (rfl : true = true)] at h | rw [if_neg Bool.false_ne_true] at h | skip
        simp (config := { maxSteps := 4000000 }) only [go_sem, Nat.reduceLT, Nat.reduceEqDiff, Nat.reduceAdd, Nat.reduceBEq, Nat.reduceMul, Nat.reduceSub, reduceIte, Nat.reduceLeDiff, reduceCtorEq, Int.reduceNeg, Int.reduceToNat, Int.reduceEq, Int.reduceNe, Int.reduceLT, Int.reduceLE, hr1, hc2d, hb3, hx4, hc5, hr6, hc7d, FinW_ret]
        obtain rfl := Option.some.inj h
        exact ⟨_, rfl, (by exact ROk.refl _), (by repeat' (first | exact PureC.val _ | refine PureC.tup ?_ | refine PureC.agg ?_ | exact pure_nil | refine pure_cons ?_ ?_))⟩
      · have hc7d := decide_eq_true hc7
        first | rw [if_pos hc7] at h | rw [if_pos hc7d] at h | simp only [hc7d, Bool.not_true, Bool.not_false, Bool.false_eq_true, if_true, if_false] at h
        obtain ⟨r4, hr8, h⟩ := Option.bind_eq_some_iff.1 h
        simp (config := { maxSteps := 4000000 }) only [go_sem, Nat.reduceLT, Nat.reduceEqDiff, Nat.reduceAdd, Nat.reduceBEq, Nat.reduceMul, Nat.reduceSub, reduceIte, Nat.reduceLeDiff, reduceCtorEq, Int.reduceNeg, Int.reduceToNat, Int.reduceEq, Int.reduceNe, Int.reduceLT, Int.reduceLE, hr1, hc2d, hb3, hx4, hc5, hr6, hc7d, hr8]
        refine RX_guard_ndec rfl (fun hc9 => ?_) (fun hc9 => ?_)
        · have hc9d := decide_eq_false hc9
          first | rw [if_neg hc9] at h | rw [if_neg (ne_true_of_eq_false hc9d)] at h | simp only [hc9d, Bool.not_true, Bool.not_false, Bool.false_eq_true, if_true, if_false] at h
          unfold law35_awake_J1 at h
          simp (config := { maxSteps := 4000000 }) only [go_sem, Nat.reduceLT, Nat.reduceEqDiff, Nat.reduceAdd, Nat.reduceBEq, Nat.reduceMul, Nat.reduceSub, reduceIte, Nat.reduceLeDiff, reduceCtorEq, Int.reduceNeg, Int.reduceToNat, Int.reduceEq, Int.reduceNe, Int.reduceLT, Int.reduceLE, hr1, hc2d, hb3, hx4, hc5, hr6, hc7d, hr8, hc9d]
          refine W_cond_t rfl ?_
          first | rw [if_pos (rfl : true = true)] at h | rw [if_neg Bool.false_ne_true] at h | skip
          simp (config := { maxSteps := 4000000 }) only [go_sem, Nat.reduceLT, Nat.reduceEqDiff, Nat.reduceAdd, Nat.reduceBEq, Nat.reduceMul, Nat.reduceSub, reduceIte, Nat.reduceLeDiff, reduceCtorEq, Int.reduceNeg, Int.reduceToNat, Int.reduceEq, Int.reduceNe, Int.reduceLT, Int.reduceLE, hr1, hc2d, hb3, hx4, hc5, hr6, hc7d, hr8, hc9d, FinW_ret]
          obtain rfl := Option.some.inj h
          exact ⟨_, rfl, (by exact ROk.refl _), (by repeat' (first | exact PureC.val _ | refine PureC.tup ?_ | refine PureC.agg ?_ | exact pure_nil | refine pure_cons ?_ ?_))⟩
        · have hc9d := decide_eq_true hc9
          first | rw [if_pos hc9] at h | rw [if_pos hc9d] at h | simp only [hc9d, Bool.not_true, Bool.not_false, Bool.false_eq_true, if_true, if_false] at h
          obtain ⟨r5, hr10, h⟩ := Option.bind_eq_some_iff.1 h
          simp (config := { maxSteps := 4000000 }) only [go_sem, Nat.reduceLT, Nat.reduceEqDiff, Nat.reduceAdd, Nat.reduceBEq, Nat.reduceMul, Nat.reduceSub, reduceIte, Nat.reduceLeDiff, reduceCtorEq, Int.reduceNeg, Int.reduceToNat, Int.reduceEq, Int.reduceNe, Int.reduceLT, Int.reduceLE, hr1, hc2d, hb3, hx4, hc5, hr6, hc7d, hr8, hc9d, hr10]
          refine RX_guard_ndec rfl (fun hc11 => ?_) (fun hc11 => ?_)
          · have hc11d := decide_eq_false hc11
            first | rw [if_neg hc11] at h | rw [if_neg (ne_true_of_eq_false hc11d)] at h | simp only [hc11d, Bool.not_true, Bool.not_false, Bool.false_eq_true, if_true, if_false] at h
            unfold law35_awake_J1 at h
            simp (config := { maxSteps := 4000000 }) only [go_sem, Nat.reduceLT, Nat.reduceEqDiff, Nat.reduceAdd, Nat.reduceBEq, Nat.reduceMul, Nat.reduceSub, reduceIte, Nat.reduceLeDiff, reduceCtorEq, Int.reduceNeg, Int.reduceToNat, Int.reduceEq, Int.reduceNe, Int.reduceLT, Int.reduceLE, hr1, hc2d, hb3, hx4, hc5, hr6, hc7d, hr8, hc9d, hr10, hc11d]
            refine W_cond_t rfl ?_
            first | rw [if_pos (rfl : true = true)] at h | rw [if_neg Bool.false_ne_true] at h | skip
            simp (config := { maxSteps := 4000000 }) only [go_sem, Nat.reduceLT, Nat.reduceEqDiff, Nat.reduceAdd, Nat.reduceBEq, Nat.reduceMul, Nat.reduceSub, reduceIte, Nat.reduceLeDiff, reduceCtorEq, Int.reduceNeg, Int.reduceToNat, Int.reduceEq, Int.reduceNe, Int.reduceLT, Int.reduceLE, hr1, hc2d, hb3, hx4, hc5, hr6, hc7d, hr8, hc9d, hr10, hc11d, FinW_ret]
            obtain rfl := Option.some.inj h
            exact ⟨_, rfl, (by exact ROk.refl _), (by repeat' (first | exact PureC.val _ | refine PureC.tup ?_ | refine PureC.agg ?_ | exact pure_nil | refine pure_cons ?_ ?_))⟩
          · have hc11d := decide_eq_true hc11
            first | rw [if_pos hc11] at h | rw [if_pos hc11d] at h | simp only [hc11d, Bool.not_true, Bool.not_false, Bool.false_eq_true, if_true, if_false] at h
            obtain ⟨r6, hr12, h⟩ := Option.bind_eq_some_iff.1 h
            simp (config := { maxSteps := 4000000 }) only [go_sem, Nat.reduceLT, Nat.reduceEqDiff, Nat.reduceAdd, Nat.reduceBEq, Nat.reduceMul, Nat.reduceSub, reduceIte, Nat.reduceLeDiff, reduceCtorEq, Int.reduceNeg, Int.reduceToNat, Int.reduceEq, Int.reduceNe, Int.reduceLT, Int.reduceLE, hr1, hc2d, hb3, hx4, hc5, hr6, hc7d, hr8, hc9d, hr10, hc11d, hr12]
            refine RX_guard_ndec rfl (fun hc13 => ?_) (fun hc13 => ?_)
            · have hc13d := decide_eq_false hc13
              first | rw [if_neg hc13] at h | rw [if_neg (ne_true_of_eq_false hc13d)] at h | simp only [hc13d, Bool.not_true, Bool.not_false, Bool.false_eq_true, if_true, if_false] at h
              unfold law35_awake_J1 at h
              simp (config := { maxSteps := 4000000 }) only [go_sem, Nat.reduceLT, Nat.reduceEqDiff, Nat.reduceAdd, Nat.reduceBEq, Nat.reduceMul, Nat.reduceSub, reduceIte, Nat.reduceLeDiff, reduceCtorEq, Int.reduceNeg, Int.reduceToNat, Int.reduceEq, Int.reduceNe, Int.reduceLT, Int.reduceLE, hr1, hc2d, hb3, hx4, hc5, hr6, hc7d, hr8, hc9d, hr10, hc11d, hr12, hc13d]
              refine W_cond_t rfl ?_
              first | rw [if_pos (rfl : true = true)] at h | rw [if_neg Bool.false_ne_true] at h | skip
              simp (config := { maxSteps := 4000000 }) only [go_sem, Nat.reduceLT, Nat.reduceEqDiff, Nat.reduceAdd, Nat.reduceBEq, Nat.reduceMul, Nat.reduceSub, reduceIte, Nat.reduceLeDiff, reduceCtorEq, Int.reduceNeg, Int.reduceToNat, Int.reduceEq, Int.reduceNe, Int.reduceLT, Int.reduceLE, hr1, hc2d, hb3, hx4, hc5, hr6, hc7d, hr8, hc9d, hr10, hc11d, hr12, hc13d, FinW_ret]
              obtain rfl := Option.some.inj h
              exact ⟨_, rfl, (by exact ROk.refl _), (by repeat' (first | exact PureC.val _ | refine PureC.tup ?_ | refine PureC.agg ?_ | exact pure_nil | refine pure_cons ?_ ?_))⟩
            · have hc13d := decide_eq_true hc13
              first | rw [if_pos hc13] at h | rw [if_pos hc13d] at h | simp only [hc13d, Bool.not_true, Bool.not_false, Bool.false_eq_true, if_true, if_false] at h
              obtain ⟨r7, hr14, h⟩ := Option.bind_eq_some_iff.1 h
              unfold law35_awake_J1 at h
              simp (config := { maxSteps := 4000000 }) only [go_sem, Nat.reduceLT, Nat.reduceEqDiff, Nat.reduceAdd, Nat.reduceBEq, Nat.reduceMul, Nat.reduceSub, reduceIte, Nat.reduceLeDiff, reduceCtorEq, Int.reduceNeg, Int.reduceToNat, Int.reduceEq, Int.reduceNe, Int.reduceLT, Int.reduceLE, hr1, hc2d, hb3, hx4, hc5, hr6, hc7d, hr8, hc9d, hr10, hc11d, hr12, hc13d, hr14]
              refine W_cond_ndec rfl (fun hc15 => ?_) (fun hc15 => ?_)
              · have hc15d := decide_eq_false hc15
                first | rw [if_neg hc15] at h | rw [if_neg (ne_true_of_eq_false hc15d)] at h | simp only [hc15d, Bool.not_true, Bool.not_false, Bool.false_eq_true, if_true, if_false] at h
                simp (config := { maxSteps := 4000000 }) only [go_sem, Nat.reduceLT, Nat.reduceEqDiff, Nat.reduceAdd, Nat.reduceBEq, Nat.reduceMul, Nat.reduceSub, reduceIte, Nat.reduceLeDiff, reduceCtorEq, Int.reduceNeg, Int.reduceToNat, Int.reduceEq, Int.reduceNe, Int.reduceLT, Int.reduceLE, hr1, hc2d, hb3, hx4, hc5, hr6, hc7d, hr8, hc9d, hr10, hc11d, hr12, hc13d, hr14, hc15d, FinW_ret]
                obtain rfl := Option.some.inj h
                exact ⟨_, rfl, (by exact ROk.refl _), (by repeat' (first | exact PureC.val _ | refine PureC.tup ?_ | refine PureC.agg ?_ | exact pure_nil | refine pure_cons ?_ ?_))⟩
              · have hc15d := decide_eq_true hc15
                first | rw [if_pos hc15] at h | rw [if_pos hc15d] at h | simp only [hc15d, Bool.not_true, Bool.not_false, Bool.false_eq_true, if_true, if_false] at h
                unfold law35_awake_J4 at h
                obtain ⟨r8, hr16, h⟩ := Option.bind_eq_some_iff.1 h
                simp (config := { maxSteps := 4000000 }) only [go_sem, Nat.reduceLT, Nat.reduceEqDiff, Nat.reduceAdd, Nat.reduceBEq, Nat.reduceMul, Nat.reduceSub, reduceIte, Nat.reduceLeDiff, reduceCtorEq, Int.reduceNeg, Int.reduceToNat, Int.reduceEq, Int.reduceNe, Int.reduceLT, Int.reduceLE, hr1, hc2d, hb3, hx4, hc5, hr6, hc7d, hr8, hc9d, hr10, hc11d, hr12, hc13d, hr14, hc15d, hr16]
                refine RX_guard_ndec rfl (fun hc17 => ?_) (fun hc17 => ?_)
                · have hc17d := decide_eq_false hc17
                  first | rw [if_neg hc17] at h | rw [if_neg (ne_true_of_eq_false hc17d)] at h | simp only [hc17d, Bool.not_true, Bool.not_false, Bool.false_eq_true, if_true, if_false] at h
                  unfold law35_awake_J2 at h
                  simp (config := { maxSteps := 4000000 }) only [go_sem, Nat.reduceLT, Nat.reduceEqDiff, Nat.reduceAdd, Nat.reduceBEq, Nat.reduceMul, Nat.reduceSub, reduceIte, Nat.reduceLeDiff, reduceCtorEq, Int.reduceNeg, Int.reduceToNat, Int.reduceEq, Int.reduceNe, Int.reduceLT, Int.reduceLE, hr1, hc2d, hb3, hx4, hc5, hr6, hc7d, hr8, hc9d, hr10, hc11d, hr12, hc13d, hr14, hc15d, hr16, hc17d]
                  refine W_cond_t rfl ?_
                  first | rw [if_pos (rfl : true = true)] at h | rw [if_neg Bool.false_ne_true] at h | skip
                  simp (config := { maxSteps := 4000000 }) only [go_sem, Nat.reduceLT, Nat.reduceEqDiff, Nat.reduceAdd, Nat.reduceBEq, Nat.reduceMul, Nat.reduceSub, reduceIte, Nat.reduceLeDiff, reduceCtorEq, Int.reduceNeg, Int.reduceToNat, Int.reduceEq, Int.reduceNe, Int.reduceLT, Int.reduceLE, hr1, hc2d, hb3, hx4, hc5, hr6, hc7d, hr8, hc9d, hr10, hc11d, hr12, hc13d, hr14, hc15d, hr16, hc17d, FinW_ret]
                  obtain rfl := Option.some.inj h
                  exact ⟨_, rfl, (by exact ROk.refl _), (by repeat' (first | exact PureC.val _ | refine PureC.tup ?_ | refine PureC.agg ?_ | exact pure_nil | refine pure_cons ?_ ?_))⟩
                · have hc17d := decide_eq_true hc17
                  first | rw [if_pos hc17] at h | rw [if_pos hc17d] at h | simp only [hc17d, Bool.not_true, Bool.not_false, Bool.false_eq_true, if_true, if_false] at h
                  simp (config := { maxSteps := 4000000 }) only [go_sem, Nat.reduceLT, Nat.reduceEqDiff, Nat.reduceAdd, Nat.reduceBEq, Nat.reduceMul, Nat.reduceSub, reduceIte, Nat.reduceLeDiff, reduceCtorEq, Int.reduceNeg, Int.reduceToNat, Int.reduceEq, Int.reduceNe, Int.reduceLT, Int.reduceLE, hr1, hc2d, hb3, hx4, hc5, hr6, hc7d, hr8, hc9d, hr10, hc11d, hr12, hc13d, hr14, hc15d, hr16, hc17d]
                  refine RX_guard_ndec rfl (fun hc18 => ?_) (fun hc18 => ?_)
                  · have hc18d := decide_eq_false hc18
                    first | rw [if_neg hc18] at h | rw [if_neg (ne_true_of_eq_false hc18d)] at h | simp only [hc18d, Bool.not_true, Bool.not_false, Bool.false_eq_true, if_true, if_false] at h
                    unfold law35_awake_J2 at h
                    simp (config := { maxSteps := 4000000 }) only [go_sem, Nat.reduceLT, Nat.reduceEqDiff, Nat.reduceAdd, Nat.reduceBEq, Nat.reduceMul, Nat.reduceSub, reduceIte, Nat.reduceLeDiff, reduceCtorEq, Int.reduceNeg, Int.reduceToNat, Int.reduceEq, Int.reduceNe, Int.reduceLT, Int.reduceLE, hr1, hc2d, hb3, hx4, hc5, hr6, hc7d, hr8, hc9d, hr10, hc11d, hr12, hc13d, hr14, hc15d, hr16, hc17d, hc18d]
                    refine W_cond_t rfl ?_
                    first | rw [if_pos (rfl : true = true)] at h | rw [if_neg Bool.false_ne_true] at h | skip
                    simp (config := { maxSteps := 4000000 }) only [go_sem, Nat.reduceLT, Nat.reduceEqDiff, Nat.reduceAdd, Nat.reduceBEq, Nat.reduceMul, Nat.reduceSub, reduceIte, Nat.reduceLeDiff, reduceCtorEq, Int.reduceNeg, Int.reduceToNat, Int.reduceEq, Int.reduceNe, Int.reduceLT, Int.reduceLE, hr1, hc2d, hb3, hx4, hc5, hr6, hc7d, hr8, hc9d, hr10, hc11d, hr12, hc13d, hr14, hc15d, hr16, hc17d, hc18d, FinW_ret]
                    obtain rfl := Option.some.inj h
                    exact ⟨_, rfl, (by exact ROk.refl _), (by repeat' (first | exact PureC.val _ | refine PureC.tup ?_ | refine PureC.agg ?_ | exact pure_nil | refine pure_cons ?_ ?_))⟩
                  · have hc18d := decide_eq_true hc18
                    first | rw [if_pos hc18] at h | rw [if_pos hc18d] at h | simp only [hc18d, Bool.not_true, Bool.not_false, Bool.false_eq_true, if_true, if_false] at h
                    obtain ⟨x9, hb19, hx20, h⟩ := gx_some h
                    try simp only [Int.toNat_natCast, Int.reduceToNat, Int.toNat_zero] at hx20
                    try simp only [Int.ofNat_lt, Int.natCast_nonneg, true_and] at hb19
                    simp (config := { maxSteps := 4000000 }) only [go_sem, Nat.reduceLT, Nat.reduceEqDiff, Nat.reduceAdd, Nat.reduceBEq, Nat.reduceMul, Nat.reduceSub, reduceIte, Nat.reduceLeDiff, reduceCtorEq, Int.reduceNeg, Int.reduceToNat, Int.reduceEq, Int.reduceNe, Int.reduceLT, Int.reduceLE, hr1, hc2d, hb3, hx4, hc5, hr6, hc7d, hr8, hc9d, hr10, hc11d, hr12, hc13d, hr14, hc15d, hr16, hc17d, hc18d, hb19, hx20]
                    refine RX_guard_ndec rfl (fun hc21 => ?_) (fun hc21 => ?_)
                    · have hc21d := decide_eq_false hc21
                      first | rw [if_neg hc21] at h | rw [if_neg (ne_true_of_eq_false hc21d)] at h | simp only [hc21d, Bool.not_true, Bool.not_false, Bool.false_eq_true, if_true, if_false] at h
                      unfold law35_awake_J2 at h
                      simp (config := { maxSteps := 4000000 }) only [go_sem, Nat.reduceLT, Nat.reduceEqDiff, Nat.reduceAdd, Nat.reduceBEq, Nat.reduceMul, Nat.reduceSub, reduceIte, Nat.reduceLeDiff, reduceCtorEq, Int.reduceNeg, Int.reduceToNat, Int.reduceEq, Int.reduceNe, Int.reduceLT, Int.reduceLE, hr1, hc2d, hb3, hx4, hc5, hr6, hc7d, hr8, hc9d, hr10, hc11d, hr12, hc13d, hr14, hc15d, hr16, hc17d, hc18d, hb19, hx20, hc21d]
                      refine W_cond_t rfl ?_
                      first | rw [if_pos (rfl : true = true)] at h | rw [if_neg Bool.false_ne_true] at h | skip
                      simp (config := { maxSteps := 4000000 }) only [go_sem, Nat.reduceLT, Nat.reduceEqDiff, Nat.reduceAdd, Nat.reduceBEq, Nat.reduceMul, Nat.reduceSub, reduceIte, Nat.reduceLeDiff, reduceCtorEq, Int.reduceNeg, Int.reduceToNat, Int.reduceEq, Int.reduceNe, Int.reduceLT, Int.reduceLE, hr1, hc2d, hb3, hx4, hc5, hr6, hc7d, hr8, hc9d, hr10, hc11d, hr12, hc13d, hr14, hc15d, hr16, hc17d, hc18d, hb19, hx20, hc21d, FinW_ret]
                      obtain rfl := Option.some.inj h
                      exact ⟨_, rfl, (by exact ROk.refl _), (by repeat' (first | exact PureC.val _ | refine PureC.tup ?_ | refine PureC.agg ?_ | exact pure_nil | refine pure_cons ?_ ?_))⟩
                    · have hc21d := decide_eq_true hc21
                      first | rw [if_pos hc21] at h | rw [if_pos hc21d] at h | simp only [hc21d, Bool.not_true, Bool.not_false, Bool.false_eq_true, if_true, if_false] at h
                      obtain ⟨x10, hb22, hx23, h⟩ := gx_some h
                      try simp only [Int.toNat_natCast, Int.reduceToNat, Int.toNat_zero] at hx23
                      try simp only [Int.ofNat_lt, Int.natCast_nonneg, true_and] at hb22
                      simp (config := { maxSteps := 4000000 }) only [go_sem, Nat.reduceLT, Nat.reduceEqDiff, Nat.reduceAdd, Nat.reduceBEq, Nat.reduceMul, Nat.reduceSub, reduceIte, Nat.reduceLeDiff, reduceCtorEq, Int.reduceNeg, Int.reduceToNat, Int.reduceEq, Int.reduceNe, Int.reduceLT, Int.reduceLE, hr1, hc2d, hb3, hx4, hc5, hr6, hc7d, hr8, hc9d, hr10, hc11d, hr12, hc13d, hr14, hc15d, hr16, hc17d, hc18d, hb19, hx20, hc21d, hb22, hx23]
                      refine RX_guard_ndec rfl (fun hc24 => ?_) (fun hc24 => ?_)
                      · have hc24d := decide_eq_false hc24
                        first | rw [if_neg hc24] at h | rw [if_neg (ne_true_of_eq_false hc24d)] at h | simp only [hc24d, Bool.not_true, Bool.not_false, Bool.false_eq_true, if_true, if_false] at h
                        unfold law35_awake_J2 at h
                        simp (config := { maxSteps := 4000000 }) only [go_sem, Nat.reduceLT, Nat.reduceEqDiff, Nat.reduceAdd, Nat.reduceBEq, Nat.reduceMul, Nat.reduceSub, reduceIte, Nat.reduceLeDiff, reduceCtorEq, Int.reduceNeg, Int.reduceToNat, Int.reduceEq, Int.reduceNe, Int.reduceLT, Int.reduceLE, hr1, hc2d, hb3, hx4, hc5, hr6, hc7d, hr8, hc9d, hr10, hc11d, hr12, hc13d, hr14, hc15d, hr16, hc17d, hc18d, hb19, hx20, hc21d, hb22, hx23, hc24d]
                        refine W_cond_t rfl ?_
                        first | rw [if_pos (rfl : true = true)] at h | rw [if_neg Bool.false_ne_true] at h | skip
                        simp (config := { maxSteps := 4000000 }) only [go_sem, Nat.reduceLT, Nat.reduceEqDiff, Nat.reduceAdd, Nat.reduceBEq, Nat.reduceMul, Nat.reduceSub, reduceIte, Nat.reduceLeDiff, reduceCtorEq, Int.reduceNeg, Int.reduceToNat, Int.reduceEq, Int.reduceNe, Int.reduceLT, Int.reduceLE, hr1, hc2d, hb3, hx4, hc5, hr6, hc7d, hr8, hc9d, hr10, hc11d, hr12, hc13d, hr14, hc15d, hr16, hc17d, hc18d, hb19, hx20, hc21d, hb22, hx23, hc24d, FinW_ret]
                        obtain rfl := Option.some.inj h
                        exact ⟨_, rfl, (by exact ROk.refl _), (by repeat' (first | exact PureC.val _ | refine PureC.tup ?_ | refine PureC.agg ?_ | exact pure_nil | refine pure_cons ?_ ?_))⟩
                      · have hc24d := decide_eq_true hc24
                        first | rw [if_pos hc24] at h | rw [if_pos hc24d] at h | simp only [hc24d, Bool.not_true, Bool.not_false, Bool.false_eq_true, if_true, if_false] at h
                        obtain ⟨x11, hb25, hx26, h⟩ := gx_some h
                        try simp only [Int.toNat_natCast, Int.reduceToNat, Int.toNat_zero] at hx26
                        try simp only [Int.ofNat_lt, Int.natCast_nonneg, true_and] at hb25
                        unfold law35_awake_J2 at h
                        simp (config := { maxSteps := 4000000 }) only [go_sem, Nat.reduceLT, Nat.reduceEqDiff, Nat.reduceAdd, Nat.reduceBEq, Nat.reduceMul, Nat.reduceSub, reduceIte, Nat.reduceLeDiff, reduceCtorEq, Int.reduceNeg, Int.reduceToNat, Int.reduceEq, Int.reduceNe, Int.reduceLT, Int.reduceLE, hr1, hc2d, hb3, hx4, hc5, hr6, hc7d, hr8, hc9d, hr10, hc11d, hr12, hc13d, hr14, hc15d, hr16, hc17d, hc18d, hb19, hx20, hc21d, hb22, hx23, hc24d, hb25, hx26]
                        refine W_cond_ndec rfl (fun hc27 => ?_) (fun hc27 => ?_)
                        · have hc27d := decide_eq_false hc27
                          first | rw [if_neg hc27] at h | rw [if_neg (ne_true_of_eq_false hc27d)] at h | simp only [hc27d, Bool.not_true, Bool.not_false, Bool.false_eq_true, if_true, if_false] at h
                          simp (config := { maxSteps := 4000000 }) only [go_sem, Nat.reduceLT, Nat.reduceEqDiff, Nat.reduceAdd, Nat.reduceBEq, Nat.reduceMul, Nat.reduceSub, reduceIte, Nat.reduceLeDiff, reduceCtorEq, Int.reduceNeg, Int.reduceToNat, Int.reduceEq, Int.reduceNe, Int.reduceLT, Int.reduceLE, hr1, hc2d, hb3, hx4, hc5, hr6, hc7d, hr8, hc9d, hr10, hc11d, hr12, hc13d, hr14, hc15d, hr16, hc17d, hc18d, hb19, hx20, hc21d, hb22, hx23, hc24d, hb25, hx26, hc27d, FinW_ret]
                          obtain rfl := Option.some.inj h
                          exact ⟨_, rfl, (by exact ROk.refl _), (by repeat' (first | exact PureC.val _ | refine PureC.tup ?_ | refine PureC.agg ?_ | exact pure_nil | refine pure_cons ?_ ?_))⟩
                        · have hc27d := decide_eq_true hc27
                          first | rw [if_pos hc27] at h | rw [if_pos hc27d] at h | simp only [hc27d, Bool.not_true, Bool.not_false, Bool.false_eq_true, if_true, if_false] at h
                          unfold law35_awake_J3 at h
                          obtain ⟨r12, hr28, h⟩ := Option.bind_eq_some_iff.1 h
                          simp (config := { maxSteps := 4000000 }) only [go_sem, Nat.reduceLT, Nat.reduceEqDiff, Nat.reduceAdd, Nat.reduceBEq, Nat.reduceMul, Nat.reduceSub, reduceIte, Nat.reduceLeDiff, reduceCtorEq, Int.reduceNeg, Int.reduceToNat, Int.reduceEq, Int.reduceNe, Int.reduceLT, Int.reduceLE, hr1, hc2d, hb3, hx4, hc5, hr6, hc7d, hr8, hc9d, hr10, hc11d, hr12, hc13d, hr14, hc15d, hr16, hc17d, hc18d, hb19, hx20, hc21d, hb22, hx23, hc24d, hb25, hx26, hc27d, hr28]
                          refine RX_guard_dec rfl (fun hc29 => ?_) (fun hc29 => ?_)
                          · have hc29d := decide_eq_true hc29
                            first | rw [if_pos hc29] at h | rw [if_pos hc29d] at h | simp only [hc29d, Bool.not_true, Bool.not_false, Bool.false_eq_true, if_true, if_false] at h
                            simp (config := { maxSteps := 4000000 }) only [go_sem, Nat.reduceLT, Nat.reduceEqDiff, Nat.reduceAdd, Nat.reduceBEq, Nat.reduceMul, Nat.reduceSub, reduceIte, Nat.reduceLeDiff, reduceCtorEq, Int.reduceNeg, Int.reduceToNat, Int.reduceEq, Int.reduceNe, Int.reduceLT, Int.reduceLE, hr1, hc2d, hb3, hx4, hc5, hr6, hc7d, hr8, hc9d, hr10, hc11d, hr12, hc13d, hr14, hc15d, hr16, hc17d, hc18d, hb19, hx20, hc21d, hb22, hx23, hc24d, hb25, hx26, hc27d, hr28, hc29d]
                            refine RX_guard_dec rfl (fun hc30 => ?_) (fun hc30 => ?_)
                            · have hc30d := decide_eq_true hc30
                              first | rw [if_pos hc30] at h | rw [if_pos hc30d] at h | simp only [hc30d, Bool.not_true, Bool.not_false, Bool.false_eq_true, if_true, if_false] at h
                              obtain ⟨r13, hr31, h⟩ := Option.bind_eq_some_iff.1 h
                              simp (config := { maxSteps := 4000000 }) only [go_sem, Nat.reduceLT, Nat.reduceEqDiff, Nat.reduceAdd, Nat.reduceBEq, Nat.reduceMul, Nat.reduceSub, reduceIte, Nat.reduceLeDiff, reduceCtorEq, Int.reduceNeg, Int.reduceToNat, Int.reduceEq, Int.reduceNe, Int.reduceLT, Int.reduceLE, hr1, hc2d, hb3, hx4, hc5, hr6, hc7d, hr8, hc9d, hr10, hc11d, hr12, hc13d, hr14, hc15d, hr16, hc17d, hc18d, hb19, hx20, hc21d, hb22, hx23, hc24d, hb25, hx26, hc27d, hr28, hc29d, hc30d, hr31, FinW_ret]
                              obtain rfl := Option.some.inj h
                              exact ⟨_, rfl, (by exact ROk.refl _), (by repeat' (first | exact PureC.val _ | refine PureC.tup ?_ | refine PureC.agg ?_ | exact pure_nil | refine pure_cons ?_ ?_))⟩
                            · have hc30d := decide_eq_false hc30
                              first | rw [if_neg hc30] at h | rw [if_neg (ne_true_of_eq_false hc30d)] at h | simp only [hc30d, Bool.not_true, Bool.not_false, Bool.false_eq_true, if_true, if_false] at h
                              simp (config := { maxSteps := 4000000 }) only [go_sem, Nat.reduceLT, Nat.reduceEqDiff, Nat.reduceAdd, Nat.reduceBEq, Nat.reduceMul, Nat.reduceSub, reduceIte, Nat.reduceLeDiff, reduceCtorEq, Int.reduceNeg, Int.reduceToNat, Int.reduceEq, Int.reduceNe, Int.reduceLT, Int.reduceLE, hr1, hc2d, hb3, hx4, hc5, hr6, hc7d, hr8, hc9d, hr10, hc11d, hr12, hc13d, hr14, hc15d, hr16, hc17d, hc18d, hb19, hx20, hc21d, hb22, hx23, hc24d, hb25, hx26, hc27d, hr28, hc29d, hc30d, FinW_ret]
                              obtain rfl := Option.some.inj h
                              exact ⟨_, rfl, (by exact ROk.refl _), (by repeat' (first | exact PureC.val _ | refine PureC.tup ?_ | refine PureC.agg ?_ | exact pure_nil | refine pure_cons ?_ ?_))⟩
                          · have hc29d := decide_eq_false hc29
                            first | rw [if_neg hc29] at h | rw [if_neg (ne_true_of_eq_false hc29d)] at h | simp only [hc29d, Bool.not_true, Bool.not_false, Bool.false_eq_true, if_true, if_false] at h
                            simp (config := { maxSteps := 4000000 }) only [go_sem, Nat.reduceLT, Nat.reduceEqDiff, Nat.reduceAdd, Nat.reduceBEq, Nat.reduceMul, Nat.reduceSub, reduceIte, Nat.reduceLeDiff, reduceCtorEq, Int.reduceNeg, Int.reduceToNat, Int.reduceEq, Int.reduceNe, Int.reduceLT, Int.reduceLE, hr1, hc2d, hb3, hx4, hc5, hr6, hc7d, hr8, hc9d, hr10, hc11d, hr12, hc13d, hr14, hc15d, hr16, hc17d, hc18d, hb19, hx20, hc21d, hb22, hx23, hc24d, hb25, hx26, hc27d, hr28, hc29d, FinW_ret]
                            obtain rfl := Option.some.inj h
                            exact ⟨_, rfl, (by exact ROk.refl _), (by repeat' (first | exact PureC.val _ | refine PureC.tup ?_ | refine PureC.agg ?_ | exact pure_nil | refine pure_cons ?_ ?_))⟩
def fs_law35_awake (N : Nat) : FnS := { own := [], pure := true, fn := fun cs => match cs with
  | [] =>  (law35_awake N ).map fun r => .val (.bool r)
  | _ => none }
theorem fs_law35_awake_own (N : Nat) : (fs_law35_awake N).own = [] := rfl
theorem fs_law35_awake_pure (N : Nat) : (fs_law35_awake N).pure = true := rfl
attribute [go_sem] fs_law35_awake fs_law35_awake_own fs_law35_awake_pure
theorem fs_law35_awake_ok (N : Nat) : FSOk Try.prog 8 (fs_law35_awake N) := by
  refine ⟨fun cs r h => ?_, fun h => by cases h⟩
  simp only [fs_law35_awake] at h
  split at h
  · simp only [Option.bind_eq_some_iff, Option.map_eq_some_iff] at h
    obtain ⟨r', hr, rfl⟩ := h
    exact ((w_law35_awake N  r' hr).args (LeL.nil))
  · cases h

end Go.Proofs.Ytpbloecedgddlaa
end

section
set_option linter.unusedSimpArgs false
set_option linter.unusedVariables false
set_option maxRecDepth 100000
namespace Go.Proofs.Ytpbloecedgddlaa
open Go Go.Proofs Go.Abs
noncomputable def E_law35_loads (N : Nat) : Env := { T := tiOf Try.prog, G := fun d f => none }
theorem E_law35_loads_T (N : Nat) : (E_law35_loads N).T = tiOf Try.prog := rfl
theorem E_law35_loads_ok (N : Nat) : GOk Try.prog { T := tiOf Try.prog, G := (E_law35_loads N).G } := by
  intro d f fs hfs
  cases hfs
theorem fo_law35_loads : FunOk Try.prog 29 Try.f29 Try.f29.body.get! := ⟨Try.func29, rfl, by decide, by kernel_rfl⟩
attribute [go_sem] E_law35_loads_T
set_option maxHeartbeats 4000000 in
theorem w_law35_loads (N : Nat) (a0 : (List Int)) (r : (List Load)) (h : law35_loads N a0 = some r) : Con Try.prog 29 [] true [.sl false none 1 none (a0.map (rowI .u16))] (.sl true none 2 none (r.map Load.row)) := by
  refine fun_ok2 (E := E_law35_loads N) (tiOf_ok Try.prog _) (E_law35_loads_ok N) mix fo_law35_loads (Nat.le_of_ble_eq_true rfl) ?_
  intro _
  rw [entry_tab (by simp)]
  rw [show entryF [] [.sl false none 1 none (a0.map (rowI .u16))] = (updT deadT 0 (.sl false none 1 none (a0.map (rowI .u16)))) from by funext t; match t with | 0 => rfl | t + 1 => rfl]
  apply W_start
  simp only [Try.f29, Option.get!, R0_RZ]
  unfold law35_loads at h
  simp (config := { maxSteps := 4000000 }) only [go_sem, Nat.reduceLT, Nat.reduceEqDiff, Nat.reduceAdd, Nat.reduceBEq, Nat.reduceMul, Nat.reduceSub, reduceIte, Nat.reduceLeDiff, reduceCtorEq, Int.reduceNeg, Int.reduceToNat, Int.reduceEq, Int.reduceNe, Int.reduceLT, Int.reduceLE]
  refine W_real fun hreal2 => ?_
  have hl1 := hreal2.lenT 0 (by decide) (by simp only [go_sem, Nat.reduceLT, Nat.reduceEqDiff, Nat.reduceAdd, Nat.reduceBEq, Nat.reduceMul, Nat.reduceSub, reduceIte, Nat.reduceLeDiff, reduceCtorEq, Int.reduceNeg, Int.reduceToNat, Int.reduceEq, Int.reduceNe, Int.reduceLT, Int.reduceLE, Bool.or_self, List.length_set, Int.natCast_zero, Int.cast_ofNat_Int]; rfl)
  rw [List.length_map] at hl1
  refine W_range (fun (v3 : Nat) (b : List Load) => ⟨tab 29 (updT (updT (updT deadT 0 (.sl false none 1 none (a0.map (rowI .u16)))) 3 (.pal 27 [] 0 b.length none)) 4 (.val (.int .i64 ((v3 : Nat) : Int)))), (upd RZ 27 (.sl true none 2 none (b.map Load.row)))⟩) [] h ?_ ?_
  · refine Weak.trans (weak_adopt 3 27 2 (by simp only [go_sem, Nat.reduceLT, Nat.reduceEqDiff, Nat.reduceAdd, Nat.reduceBEq, Nat.reduceMul, Nat.reduceSub, reduceIte, Nat.reduceLeDiff, reduceCtorEq, Int.reduceNeg, Int.reduceToNat, Int.reduceEq, Int.reduceNe, Int.reduceLT, Int.reduceLE, Bool.or_self, List.length_set, Int.natCast_zero, Int.cast_ofNat_Int]) (by simp only [go_sem, Nat.reduceLT, Nat.reduceEqDiff, Nat.reduceAdd, Nat.reduceBEq, Nat.reduceMul, Nat.reduceSub, reduceIte, Nat.reduceLeDiff, reduceCtorEq, Int.reduceNeg, Int.reduceToNat, Int.reduceEq, Int.reduceNe, Int.reduceLT, Int.reduceLE, Bool.or_self, List.length_set, Int.natCast_zero, Int.cast_ofNat_Int])) ?_
    refine weak_roots ?_ ?_
    · (repeat' (first | exact weakX_nil | refine weakX_cons ?_ ?_)) <;> (first | rfl | simp only [go_sem, Nat.reduceLT, Nat.reduceEqDiff, Nat.reduceAdd, Nat.reduceBEq, Nat.reduceMul, Nat.reduceSub, reduceIte, Nat.reduceLeDiff, reduceCtorEq, Int.reduceNeg, Int.reduceToNat, Int.reduceEq, Int.reduceNe, Int.reduceLT, Int.reduceLE, Bool.or_self, List.length_set, Int.natCast_zero, Int.cast_ofNat_Int])
    · (repeat' (first | exact weakR_nil | refine weakR_cons ?_ ?_ ?_)) <;> (first | rfl | simp only [go_sem, Nat.reduceLT, Nat.reduceEqDiff, Nat.reduceAdd, Nat.reduceBEq, Nat.reduceMul, Nat.reduceSub, reduceIte, Nat.reduceLeDiff, reduceCtorEq, Int.reduceNeg, Int.reduceToNat, Int.reduceEq, Int.reduceNe, Int.reduceLT, Int.reduceLE, Bool.or_self, List.length_set, Int.natCast_zero, Int.cast_ofNat_Int])
  · rintro v3 l2 hi3 h -
    rcases drop_cases a0 v3 hi3 with ⟨x7, hi3', hx4, hd6⟩ | ⟨hi3', _, hd6⟩
    · rw [hd6] at h
      simp only [law35_loads_L1] at h
      have hw5 := wrap_succ hi3' hl1
      simp (config := { maxSteps := 4000000 }) only [go_sem, Nat.reduceLT, Nat.reduceEqDiff, Nat.reduceAdd, Nat.reduceBEq, Nat.reduceMul, Nat.reduceSub, reduceIte, Nat.reduceLeDiff, reduceCtorEq, Int.reduceNeg, Int.reduceToNat, Int.reduceEq, Int.reduceNe, Int.reduceLT, Int.reduceLE, hx4, hi3', hw5]
      refine W_cond_dec rfl (fun hc7 => ?_) (fun hc7 => ?_)
      · have hc7d := decide_eq_true hc7
        first | rw [if_pos hc7] at h | rw [if_pos hc7d] at h | simp only [hc7d, Bool.not_true, Bool.not_false, Bool.false_eq_true, if_true, if_false] at h
        obtain ⟨ha8, h⟩ := apx_some h
        simp only [List.length_cons, List.length_nil, Nat.zero_add, Nat.add_zero, Nat.reduceAdd] at ha8
        simp (config := { maxSteps := 4000000 }) only [go_sem, Nat.reduceLT, Nat.reduceEqDiff, Nat.reduceAdd, Nat.reduceBEq, Nat.reduceMul, Nat.reduceSub, reduceIte, Nat.reduceLeDiff, reduceCtorEq, Int.reduceNeg, Int.reduceToNat, Int.reduceEq, Int.reduceNe, Int.reduceLT, Int.reduceLE, hx4, hi3', hw5, hc7d, ha8]
        first | refine ⟨(l2 ++ [(Load.mk (IntKind.i64.wrap ((IntKind.i64.wrap (3 * ((v3 : Nat) : Int))) + 1)) (Int.tmod (IntKind.i64.wrap x7) 1001))]), ?_, h⟩ | refine ⟨hi3', (l2 ++ [(Load.mk (IntKind.i64.wrap ((IntKind.i64.wrap (3 * ((v3 : Nat) : Int))) + 1)) (Int.tmod (IntKind.i64.wrap x7) 1001))]), ?_, h⟩
        refine weak_roots ?_ ?_
        · (repeat' (first | exact weakX_nil | refine weakX_cons ?_ ?_)) <;> (first | rfl | simp only [go_sem, Nat.reduceLT, Nat.reduceEqDiff, Nat.reduceAdd, Nat.reduceBEq, Nat.reduceMul, Nat.reduceSub, reduceIte, Nat.reduceLeDiff, reduceCtorEq, Int.reduceNeg, Int.reduceToNat, Int.reduceEq, Int.reduceNe, Int.reduceLT, Int.reduceLE, Bool.or_self, List.length_set, Int.natCast_zero, Int.cast_ofNat_Int, hx4, hi3', hw5, hc7d, ha8])
        · (repeat' (first | exact weakR_nil | refine weakR_cons ?_ ?_ ?_)) <;> (first | rfl | simp only [go_sem, Nat.reduceLT, Nat.reduceEqDiff, Nat.reduceAdd, Nat.reduceBEq, Nat.reduceMul, Nat.reduceSub, reduceIte, Nat.reduceLeDiff, reduceCtorEq, Int.reduceNeg, Int.reduceToNat, Int.reduceEq, Int.reduceNe, Int.reduceLT, Int.reduceLE, Bool.or_self, List.length_set, Int.natCast_zero, Int.cast_ofNat_Int, hx4, hi3', hw5, hc7d, ha8])
      · have hc7d := decide_eq_false hc7
        first | rw [if_neg hc7] at h | rw [if_neg (ne_true_of_eq_false hc7d)] at h | simp only [hc7d, Bool.not_true, Bool.not_false, Bool.false_eq_true, if_true, if_false] at h
        simp (config := { maxSteps := 4000000 }) only [go_sem, Nat.reduceLT, Nat.reduceEqDiff, Nat.reduceAdd, Nat.reduceBEq, Nat.reduceMul, Nat.reduceSub, reduceIte, Nat.reduceLeDiff, reduceCtorEq, Int.reduceNeg, Int.reduceToNat, Int.reduceEq, Int.reduceNe, Int.reduceLT, Int.reduceLE, hx4, hi3', hw5, hc7d, FinW_ret]
        obtain rfl := Option.some.inj h
        exact ⟨_, rfl, (by repeat' (first | exact ROk.refl _ | exact ROk.nil _ | ((refine ROk.of _ ?_ ?_); (focus ((repeat' (first | exact Le.refl _ | exact LeL.nil | exact Le.nils | exact LeLL.refl _ | refine LeLL.mapAppend ?_ ?_ | refine LeLL.cons ?_ ?_ | refine Le.sl ?_ | refine Le.tup ?_ | refine Le.agg ?_ | refine LeL.cons ?_ ?_)); done)); (focus ((repeat' (first | exact NoOwn.val _ | exact NoOwn.sl _ _ _ _ | refine NoOwn.tup ?_ | refine NoOwn.agg ?_ | exact noOwn_nil | refine noOwn_cons ?_ ?_)); done))) | ((refine ROk.own ?_ ?_); (focus ((repeat' (first | exact Le.refl _ | exact LeL.nil | exact Le.nils | exact LeLL.refl _ | refine LeLL.mapAppend ?_ ?_ | refine LeLL.cons ?_ ?_ | refine Le.sl ?_ | refine Le.tup ?_ | refine Le.agg ?_ | refine LeL.cons ?_ ?_)); done)); (focus ((first | exact RowOk.noOwn (rowI_ok .u16) _ | exact RowOk.noOwn Load.row_ok _); done))) | refine ROk.agg rfl ?_ | refine ROk.tup rfl ?_ | exact rok_nil | refine rok_cons ?_ ?_)), (by (repeat' (first | exact PureC.val _ | refine PureC.tup ?_ | refine PureC.agg ?_ | exact pure_nil | refine pure_cons ?_ ?_ | refine PureC.sl ?_ | exact pure_rows (pure_rowI .u16) _ | exact pure_rows Load.row_pure _ |  exact pure_rows_nil | refine pure_rows_append ?_ ?_ | refine pure_rows_cons ?_ ?_)))⟩
    · rw [hd6] at h
      simp only [law35_loads_L1] at h
      simp (config := { maxSteps := 4000000 }) only [go_sem, Nat.reduceLT, Nat.reduceEqDiff, Nat.reduceAdd, Nat.reduceBEq, Nat.reduceMul, Nat.reduceSub, reduceIte, Nat.reduceLeDiff, reduceCtorEq, Int.reduceNeg, Int.reduceToNat, Int.reduceEq, Int.reduceNe, Int.reduceLT, Int.reduceLE, hi3']
      refine W_cond_f rfl ?_
      first | rw [if_pos (rfl : true = true)] at h | rw [if_neg Bool.false_ne_true] at h | skip
      simp (config := { maxSteps := 4000000 }) only [go_sem, Nat.reduceLT, Nat.reduceEqDiff, Nat.reduceAdd, Nat.reduceBEq, Nat.reduceMul, Nat.reduceSub, reduceIte, Nat.reduceLeDiff, reduceCtorEq, Int.reduceNeg, Int.reduceToNat, Int.reduceEq, Int.reduceNe, Int.reduceLT, Int.reduceLE, hi3', FinW_ret]
      obtain rfl := Option.some.inj h
      exact ⟨_, rfl, (by repeat' (first | exact ROk.refl _ | exact ROk.nil _ | ((refine ROk.of _ ?_ ?_); (focus ((repeat' (first | exact Le.refl _ | exact LeL.nil | exact Le.nils | exact LeLL.refl _ | refine LeLL.mapAppend ?_ ?_ | refine LeLL.cons ?_ ?_ | refine Le.sl ?_ | refine Le.tup ?_ | refine Le.agg ?_ | refine LeL.cons ?_ ?_)); done)); (focus ((repeat' (first | exact NoOwn.val _ | exact NoOwn.sl _ _ _ _ | refine NoOwn.tup ?_ | refine NoOwn.agg ?_ | exact noOwn_nil | refine noOwn_cons ?_ ?_)); done))) | ((refine ROk.own ?_ ?_); (focus ((repeat' (first | exact Le.refl _ | exact LeL.nil | exact Le.nils | exact LeLL.refl _ | refine LeLL.mapAppend ?_ ?_ | refine LeLL.cons ?_ ?_ | refine Le.sl ?_ | refine Le.tup ?_ | refine Le.agg ?_ | refine LeL.cons ?_ ?_)); done)); (focus ((first | exact RowOk.noOwn (rowI_ok .u16) _ | exact RowOk.noOwn Load.row_ok _); done))) | refine ROk.agg rfl ?_ | refine ROk.tup rfl ?_ | exact rok_nil | refine rok_cons ?_ ?_)), (by (repeat' (first | exact PureC.val _ | refine PureC.tup ?_ | refine PureC.agg ?_ | exact pure_nil | refine pure_cons ?_ ?_ | refine PureC.sl ?_ | exact pure_rows (pure_rowI .u16) _ | exact pure_rows Load.row_pure _ |  exact pure_rows_nil | refine pure_rows_append ?_ ?_ | refine pure_rows_cons ?_ ?_)))⟩
def fs_law35_loads (N : Nat) : FnS := { own := [], pure := true, fn := fun cs => match cs with
  | [c0] => ((decL 1 (dec1 (decI .u16))) c0).bind fun qc0 => (law35_loads N qc0).map fun r => .sl false none 2 none (r.map Load.row)
  | _ => none }
theorem fs_law35_loads_own (N : Nat) : (fs_law35_loads N).own = [] := rfl
theorem fs_law35_loads_pure (N : Nat) : (fs_law35_loads N).pure = true := rfl
attribute [go_sem] fs_law35_loads fs_law35_loads_own fs_law35_loads_pure
theorem fs_law35_loads_ok (N : Nat) : FSOk Try.prog 29 (fs_law35_loads N) := by
  refine ⟨fun cs r h => ?_, fun h => by cases h⟩
  simp only [fs_law35_loads] at h
  split at h
  · simp only [Option.bind_eq_some_iff, Option.map_eq_some_iff] at h
    obtain ⟨q0, h0, r', hr, rfl⟩ := h
    exact (((w_law35_loads N q0 r' hr).args (LeL.cons (decL_le (decI1_le .u16) h0) (LeL.nil))).res (by repeat' (first | exact ROk.refl _ | exact ROk.nil _ | ((refine ROk.of _ ?_ ?_); (focus ((repeat' (first | exact Le.refl _ | exact LeL.nil | exact Le.nils | exact LeLL.refl _ | refine LeLL.mapAppend ?_ ?_ | refine LeLL.cons ?_ ?_ | refine Le.sl ?_ | refine Le.tup ?_ | refine Le.agg ?_ | refine LeL.cons ?_ ?_)); done)); (focus ((repeat' (first | exact NoOwn.val _ | exact NoOwn.sl _ _ _ _ | refine NoOwn.tup ?_ | refine NoOwn.agg ?_ | exact noOwn_nil | refine noOwn_cons ?_ ?_)); done))) | ((refine ROk.own ?_ ?_); (focus ((repeat' (first | exact Le.refl _ | exact LeL.nil | exact Le.nils | exact LeLL.refl _ | refine LeLL.mapAppend ?_ ?_ | refine LeLL.cons ?_ ?_ | refine Le.sl ?_ | refine Le.tup ?_ | refine Le.agg ?_ | refine LeL.cons ?_ ?_)); done)); (focus ((first | exact RowOk.noOwn (rowI_ok .u16) _ | exact RowOk.noOwn Load.row_ok _); done))) | refine ROk.agg rfl ?_ | refine ROk.tup rfl ?_ | exact rok_nil | refine rok_cons ?_ ?_)))
  · cases h

def fso_law35_loads (N : Nat) : FnS := { own := [], pure := true, fn := fun cs => match cs with
  | [c0] => ((decL 1 (dec1 (decI .u16))) c0).bind fun qc0 => (law35_loads N qc0).map fun r => .sl true none 2 none (r.map Load.row)
  | _ => none }
theorem fso_law35_loads_own (N : Nat) : (fso_law35_loads N).own = [] := rfl
theorem fso_law35_loads_pure (N : Nat) : (fso_law35_loads N).pure = true := rfl
attribute [go_sem] fso_law35_loads fso_law35_loads_own fso_law35_loads_pure
theorem fso_law35_loads_ok (N : Nat) : FSOk Try.prog 29 (fso_law35_loads N) := by
  refine ⟨fun cs r h => ?_, fun h => by cases h⟩
  simp only [fso_law35_loads] at h
  split at h
  · simp only [Option.bind_eq_some_iff, Option.map_eq_some_iff] at h
    obtain ⟨q0, h0, r', hr, rfl⟩ := h
    exact ((w_law35_loads N q0 r' hr).args (LeL.cons (decL_le (decI1_le .u16) h0) (LeL.nil)))
  · cases h

end Go.Proofs.Ytpbloecedgddlaa
end
