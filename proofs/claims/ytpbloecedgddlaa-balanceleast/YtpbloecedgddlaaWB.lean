/- Each Go function computes its model: proofs laid by a program of ours. -/
import Derived.Test.YtpbloecedgddlaaB
import Derived.Test.YtpbloecedgddlaaWA
section
set_option linter.unusedSimpArgs false
set_option linter.unusedVariables false
set_option maxRecDepth 100000
namespace Go.Proofs.Ytpbloecedgddlaa
open Go Go.Proofs Go.Abs
noncomputable def E_law35_BalanceLeast (N : Nat) : Env := { T := tiOf Try.prog, G := fun d f => if d = 12 ∧ f = 8 then some (fs_law35_awake N) else if d = 15 ∧ f = 29 then some (fs_law35_loads N) else if d = 32 ∧ f = 20 then some (fs_balance_Spread N) else if d = 37 ∧ f = 24 then some (fs_balance_Needed N) else if d = 74 ∧ f = 11 then some (fs_balance_Apply N) else none }
theorem E_law35_BalanceLeast_T (N : Nat) : (E_law35_BalanceLeast N).T = tiOf Try.prog := rfl
theorem E_law35_BalanceLeast_G0 (N : Nat) : (E_law35_BalanceLeast N).G 12 8 = some (fs_law35_awake N) := rfl
theorem E_law35_BalanceLeast_G1 (N : Nat) : (E_law35_BalanceLeast N).G 15 29 = some (fs_law35_loads N) := rfl
theorem E_law35_BalanceLeast_G2 (N : Nat) : (E_law35_BalanceLeast N).G 32 20 = some (fs_balance_Spread N) := rfl
theorem E_law35_BalanceLeast_G3 (N : Nat) : (E_law35_BalanceLeast N).G 37 24 = some (fs_balance_Needed N) := rfl
theorem E_law35_BalanceLeast_G4 (N : Nat) : (E_law35_BalanceLeast N).G 74 11 = some (fs_balance_Apply N) := rfl
theorem E_law35_BalanceLeast_ok (N : Nat) : GOk Try.prog { T := tiOf Try.prog, G := (E_law35_BalanceLeast N).G } := by
  intro d f fs hfs
  simp only [E_law35_BalanceLeast] at hfs
  by_cases hc : d = 12 ∧ f = 8
  · rw [if_pos hc] at hfs; obtain ⟨rfl, rfl⟩ := hc; obtain rfl := Option.some.inj hfs; exact fs_law35_awake_ok N
  rw [if_neg hc] at hfs
  by_cases hc : d = 15 ∧ f = 29
  · rw [if_pos hc] at hfs; obtain ⟨rfl, rfl⟩ := hc; obtain rfl := Option.some.inj hfs; exact fs_law35_loads_ok N
  rw [if_neg hc] at hfs
  by_cases hc : d = 32 ∧ f = 20
  · rw [if_pos hc] at hfs; obtain ⟨rfl, rfl⟩ := hc; obtain rfl := Option.some.inj hfs; exact fs_balance_Spread_ok N
  rw [if_neg hc] at hfs
  by_cases hc : d = 37 ∧ f = 24
  · rw [if_pos hc] at hfs; obtain ⟨rfl, rfl⟩ := hc; obtain rfl := Option.some.inj hfs; exact fs_balance_Needed_ok N
  rw [if_neg hc] at hfs
  by_cases hc : d = 74 ∧ f = 11
  · rw [if_pos hc] at hfs; obtain ⟨rfl, rfl⟩ := hc; obtain rfl := Option.some.inj hfs; exact fs_balance_Apply_ok N
  rw [if_neg hc] at hfs
  cases hfs
theorem fo_law35_BalanceLeast : FunOk Try.prog 5 Try.f5 Try.f5.body.get! := ⟨Try.func5, rfl, by decide, by kernel_rfl⟩
attribute [go_sem] E_law35_BalanceLeast_T E_law35_BalanceLeast_G0 E_law35_BalanceLeast_G1 E_law35_BalanceLeast_G2 E_law35_BalanceLeast_G3 E_law35_BalanceLeast_G4
set_option maxHeartbeats 4000000 in
theorem w_law35_BalanceLeast (N : Nat) (a0 : (List Int)) (a1 : (List Int)) (r : Bool) (h : law35_BalanceLeast N a0 a1 = some r) : Con Try.prog 5 [] true [.sl false none 1 none (a0.map (rowI .u16)), .sl false none 1 none (a1.map (rowI .u16))] (.val (.bool r)) := by
  refine fun_ok2 (E := E_law35_BalanceLeast N) (tiOf_ok Try.prog _) (E_law35_BalanceLeast_ok N) mix fo_law35_BalanceLeast (Nat.le_of_ble_eq_true rfl) ?_
  intro _
  rw [entry_tab (by simp)]
  rw [show entryF [] [.sl false none 1 none (a0.map (rowI .u16)), .sl false none 1 none (a1.map (rowI .u16))] = (updT (updT deadT 0 (.sl false none 1 none (a0.map (rowI .u16)))) 1 (.sl false none 1 none (a1.map (rowI .u16)))) from by funext t; match t with | 0 => rfl | 1 => rfl | t + 2 => rfl]
  apply W_start
  simp only [Try.f5, Option.get!, R0_RZ]
  unfold law35_BalanceLeast at h
  obtain ⟨r1, hr1, h⟩ := Option.bind_eq_some_iff.1 h
  simp (config := { maxSteps := 4000000 }) only [go_sem, Nat.reduceLT, Nat.reduceEqDiff, Nat.reduceAdd, Nat.reduceBEq, Nat.reduceMul, Nat.reduceSub, reduceIte, Nat.reduceLeDiff, reduceCtorEq, Int.reduceNeg, Int.reduceToNat, Int.reduceEq, Int.reduceNe, Int.reduceLT, Int.reduceLE, hr1]
  repeat' ((with_reducible refine and_bar ?_ ?_); kernel_rfl)
  refine W_cond_nbool rfl (fun hc2 => ?_) (fun hc2 => ?_)
  · first | rw [if_neg (ne_true_of_eq_false hc2)] at h | simp only [hc2, Bool.not_true, Bool.not_false, Bool.false_eq_true, if_true, if_false] at h
    simp (config := { maxSteps := 4000000 }) only [go_sem, Nat.reduceLT, Nat.reduceEqDiff, Nat.reduceAdd, Nat.reduceBEq, Nat.reduceMul, Nat.reduceSub, reduceIte, Nat.reduceLeDiff, reduceCtorEq, Int.reduceNeg, Int.reduceToNat, Int.reduceEq, Int.reduceNe, Int.reduceLT, Int.reduceLE, hr1, hc2, FinW_ret]
    repeat' ((with_reducible refine and_bar ?_ ?_); kernel_rfl)
    obtain rfl := Option.some.inj h
    exact ⟨_, rfl, (by exact ROk.refl _), (by repeat' (first | exact PureC.val _ | refine PureC.tup ?_ | refine PureC.agg ?_ | exact pure_nil | refine pure_cons ?_ ?_))⟩
  · first | rw [if_pos hc2] at h | simp only [hc2, Bool.not_true, Bool.not_false, Bool.false_eq_true, if_true, if_false] at h
    obtain ⟨r2, hr3, h⟩ := Option.bind_eq_some_iff.1 h
    simp (config := { maxSteps := 4000000 }) only [go_sem, Nat.reduceLT, Nat.reduceEqDiff, Nat.reduceAdd, Nat.reduceBEq, Nat.reduceMul, Nat.reduceSub, reduceIte, Nat.reduceLeDiff, reduceCtorEq, Int.reduceNeg, Int.reduceToNat, Int.reduceEq, Int.reduceNe, Int.reduceLT, Int.reduceLE, hr1, hc2, hr3]
    repeat' ((with_reducible refine and_bar ?_ ?_); kernel_rfl)
    refine RX_guard_dec rfl (fun hc4 => ?_) (fun hc4 => ?_)
    · have hc4d := decide_eq_true hc4
      first | rw [if_pos hc4] at h | rw [if_pos hc4d] at h | simp only [hc4d, Bool.not_true, Bool.not_false, Bool.false_eq_true, if_true, if_false] at h
      unfold law35_BalanceLeast_J1 at h
      simp (config := { maxSteps := 4000000 }) only [go_sem, Nat.reduceLT, Nat.reduceEqDiff, Nat.reduceAdd, Nat.reduceBEq, Nat.reduceMul, Nat.reduceSub, reduceIte, Nat.reduceLeDiff, reduceCtorEq, Int.reduceNeg, Int.reduceToNat, Int.reduceEq, Int.reduceNe, Int.reduceLT, Int.reduceLE, hr1, hc2, hr3, hc4d]
      repeat' ((with_reducible refine and_bar ?_ ?_); kernel_rfl)
      refine W_cond_t rfl ?_
      first | rw [if_pos (rfl : true = true)] at h | rw [if_neg Bool.false_ne_true] at h | skip
      simp (config := { maxSteps := 4000000 }) only [go_sem, Nat.reduceLT, Nat.reduceEqDiff, Nat.reduceAdd, Nat.reduceBEq, Nat.reduceMul, Nat.reduceSub, reduceIte, Nat.reduceLeDiff, reduceCtorEq, Int.reduceNeg, Int.reduceToNat, Int.reduceEq, Int.reduceNe, Int.reduceLT, Int.reduceLE, hr1, hc2, hr3, hc4d, FinW_ret]
      repeat' ((with_reducible refine and_bar ?_ ?_); kernel_rfl)
      obtain rfl := Option.some.inj h
      exact ⟨_, rfl, (by exact ROk.refl _), (by repeat' (first | exact PureC.val _ | refine PureC.tup ?_ | refine PureC.agg ?_ | exact pure_nil | refine pure_cons ?_ ?_))⟩
    · have hc4d := decide_eq_false hc4
      first | rw [if_neg hc4] at h | rw [if_neg (ne_true_of_eq_false hc4d)] at h | simp only [hc4d, Bool.not_true, Bool.not_false, Bool.false_eq_true, if_true, if_false] at h
      unfold law35_BalanceLeast_J1 at h
      simp (config := { maxSteps := 4000000 }) only [go_sem, Nat.reduceLT, Nat.reduceEqDiff, Nat.reduceAdd, Nat.reduceBEq, Nat.reduceMul, Nat.reduceSub, reduceIte, Nat.reduceLeDiff, reduceCtorEq, Int.reduceNeg, Int.reduceToNat, Int.reduceEq, Int.reduceNe, Int.reduceLT, Int.reduceLE, hr1, hc2, hr3, hc4d]
      repeat' ((with_reducible refine and_bar ?_ ?_); kernel_rfl)
      refine W_cond_dec rfl (fun hc5 => ?_) (fun hc5 => ?_)
      · have hc5d := decide_eq_true hc5
        first | rw [if_pos hc5] at h | rw [if_pos hc5d] at h | simp only [hc5d, Bool.not_true, Bool.not_false, Bool.false_eq_true, if_true, if_false] at h
        simp (config := { maxSteps := 4000000 }) only [go_sem, Nat.reduceLT, Nat.reduceEqDiff, Nat.reduceAdd, Nat.reduceBEq, Nat.reduceMul, Nat.reduceSub, reduceIte, Nat.reduceLeDiff, reduceCtorEq, Int.reduceNeg, Int.reduceToNat, Int.reduceEq, Int.reduceNe, Int.reduceLT, Int.reduceLE, hr1, hc2, hr3, hc4d, hc5d, FinW_ret]
        repeat' ((with_reducible refine and_bar ?_ ?_); kernel_rfl)
        obtain rfl := Option.some.inj h
        exact ⟨_, rfl, (by exact ROk.refl _), (by repeat' (first | exact PureC.val _ | refine PureC.tup ?_ | refine PureC.agg ?_ | exact pure_nil | refine pure_cons ?_ ?_))⟩
      · have hc5d := decide_eq_false hc5
        first | rw [if_neg hc5] at h | rw [if_neg (ne_true_of_eq_false hc5d)] at h | simp only [hc5d, Bool.not_true, Bool.not_false, Bool.false_eq_true, if_true, if_false] at h
        unfold law35_BalanceLeast_J4 at h
        simp (config := { maxSteps := 4000000 }) only [go_sem, Nat.reduceLT, Nat.reduceEqDiff, Nat.reduceAdd, Nat.reduceBEq, Nat.reduceMul, Nat.reduceSub, reduceIte, Nat.reduceLeDiff, reduceCtorEq, Int.reduceNeg, Int.reduceToNat, Int.reduceEq, Int.reduceNe, Int.reduceLT, Int.reduceLE, hr1, hc2, hr3, hc4d, hc5d]
        repeat' ((with_reducible refine and_bar ?_ ?_); kernel_rfl)
        refine W_fuel (fun (b : List Load × Int × Int) => ⟨tab 82 (updT (updT (updT (updT (updT deadT 1 (.sl false none 1 none (a1.map (rowI .u16)))) 5 (.sl false none 2 none (r2.map Load.row))) 6 (.sl false none 2 none (b.1.map Load.row))) 7 (.val (.int .i64 b.2.1))) 8 (.val (.int .i64 b.2.2))), RZ⟩) (r2, 0, 0) h ?_ ?_
        · refine weak_roots ?_ ?_
          · (repeat' (first | exact weakX_nil | refine weakX_cons ?_ ?_)) <;> (first | rfl | simp only [go_sem, Nat.reduceLT, Nat.reduceEqDiff, Nat.reduceAdd, Nat.reduceBEq, Nat.reduceMul, Nat.reduceSub, reduceIte, Nat.reduceLeDiff, reduceCtorEq, Int.reduceNeg, Int.reduceToNat, Int.reduceEq, Int.reduceNe, Int.reduceLT, Int.reduceLE, Bool.or_self, List.length_set, Int.natCast_zero, Int.cast_ofNat_Int, hr1, hc2, hr3, hc4d, hc5d])
          · (repeat' (first | exact weakR_nil | refine weakR_cons ?_ ?_ ?_)) <;> (first | rfl | simp only [go_sem, Nat.reduceLT, Nat.reduceEqDiff, Nat.reduceAdd, Nat.reduceBEq, Nat.reduceMul, Nat.reduceSub, reduceIte, Nat.reduceLeDiff, reduceCtorEq, Int.reduceNeg, Int.reduceToNat, Int.reduceEq, Int.reduceNe, Int.reduceLT, Int.reduceLE, Bool.or_self, List.length_set, Int.natCast_zero, Int.cast_ofNat_Int, hr1, hc2, hr3, hc4d, hc5d])
        · rintro n ⟨l8, v9, v10⟩ h -
          cases n with
          | zero => simp [law35_BalanceLeast_L1] at h
          | succ n =>
          simp only [law35_BalanceLeast_L1] at h
          simp (config := { maxSteps := 4000000 }) only [go_sem, Nat.reduceLT, Nat.reduceEqDiff, Nat.reduceAdd, Nat.reduceBEq, Nat.reduceMul, Nat.reduceSub, reduceIte, Nat.reduceLeDiff, reduceCtorEq, Int.reduceNeg, Int.reduceToNat, Int.reduceEq, Int.reduceNe, Int.reduceLT, Int.reduceLE, hr1, hc2, hr3, hc4d, hc5d]
          repeat' ((with_reducible refine and_bar ?_ ?_); kernel_rfl)
          refine W_cond_dec rfl (fun hc6 => ?_) (fun hc6 => ?_)
          · have hc6d := decide_eq_true hc6
            first | rw [if_pos hc6] at h | rw [if_pos hc6d] at h | simp only [hc6d, Bool.not_true, Bool.not_false, Bool.false_eq_true, if_true, if_false] at h
            obtain ⟨r3, hr7, h⟩ := Option.bind_eq_some_iff.1 h
            simp (config := { maxSteps := 4000000 }) only [go_sem, Nat.reduceLT, Nat.reduceEqDiff, Nat.reduceAdd, Nat.reduceBEq, Nat.reduceMul, Nat.reduceSub, reduceIte, Nat.reduceLeDiff, reduceCtorEq, Int.reduceNeg, Int.reduceToNat, Int.reduceEq, Int.reduceNe, Int.reduceLT, Int.reduceLE, hr1, hc2, hr3, hc4d, hc5d, hc6d, hr7]
            repeat' ((with_reducible refine and_bar ?_ ?_); kernel_rfl)
            refine RX_guard_dec rfl (fun hc8 => ?_) (fun hc8 => ?_)
            · have hc8d := decide_eq_true hc8
              first | rw [if_pos hc8] at h | rw [if_pos hc8d] at h | simp only [hc8d, Bool.not_true, Bool.not_false, Bool.false_eq_true, if_true, if_false] at h
              obtain ⟨r4, hr9, h⟩ := Option.bind_eq_some_iff.1 h
              unfold law35_BalanceLeast_J2 at h
              simp (config := { maxSteps := 4000000 }) only [go_sem, Nat.reduceLT, Nat.reduceEqDiff, Nat.reduceAdd, Nat.reduceBEq, Nat.reduceMul, Nat.reduceSub, reduceIte, Nat.reduceLeDiff, reduceCtorEq, Int.reduceNeg, Int.reduceToNat, Int.reduceEq, Int.reduceNe, Int.reduceLT, Int.reduceLE, hr1, hc2, hr3, hc4d, hc5d, hc6d, hr7, hc8d, hr9]
              repeat' ((with_reducible refine and_bar ?_ ?_); kernel_rfl)
              refine W_cond_dec rfl (fun hc10 => ?_) (fun hc10 => ?_)
              · have hc10d := decide_eq_true hc10
                first | rw [if_pos hc10] at h | rw [if_pos hc10d] at h | simp only [hc10d, Bool.not_true, Bool.not_false, Bool.false_eq_true, if_true, if_false] at h
                simp (config := { maxSteps := 4000000 }) only [go_sem, Nat.reduceLT, Nat.reduceEqDiff, Nat.reduceAdd, Nat.reduceBEq, Nat.reduceMul, Nat.reduceSub, reduceIte, Nat.reduceLeDiff, reduceCtorEq, Int.reduceNeg, Int.reduceToNat, Int.reduceEq, Int.reduceNe, Int.reduceLT, Int.reduceLE, hr1, hc2, hr3, hc4d, hc5d, hc6d, hr7, hc8d, hr9, hc10d, FinW_ret]
                repeat' ((with_reducible refine and_bar ?_ ?_); kernel_rfl)
                obtain rfl := Option.some.inj h
                exact ⟨_, rfl, (by exact ROk.refl _), (by repeat' (first | exact PureC.val _ | refine PureC.tup ?_ | refine PureC.agg ?_ | exact pure_nil | refine pure_cons ?_ ?_))⟩
              · have hc10d := decide_eq_false hc10
                first | rw [if_neg hc10] at h | rw [if_neg (ne_true_of_eq_false hc10d)] at h | simp only [hc10d, Bool.not_true, Bool.not_false, Bool.false_eq_true, if_true, if_false] at h
                unfold law35_BalanceLeast_J3 at h
                simp (config := { maxSteps := 4000000 }) only [go_sem, Nat.reduceLT, Nat.reduceEqDiff, Nat.reduceAdd, Nat.reduceBEq, Nat.reduceMul, Nat.reduceSub, reduceIte, Nat.reduceLeDiff, reduceCtorEq, Int.reduceNeg, Int.reduceToNat, Int.reduceEq, Int.reduceNe, Int.reduceLT, Int.reduceLE, hr1, hc2, hr3, hc4d, hc5d, hc6d, hr7, hc8d, hr9, hc10d]
                repeat' ((with_reducible refine and_bar ?_ ?_); kernel_rfl)
                refine W_cond_dec rfl (fun hc11 => ?_) (fun hc11 => ?_)
                · have hc11d := decide_eq_true hc11
                  first | rw [if_pos hc11] at h | rw [if_pos hc11d] at h | simp only [hc11d, Bool.not_true, Bool.not_false, Bool.false_eq_true, if_true, if_false] at h
                  simp (config := { maxSteps := 4000000 }) only [go_sem, Nat.reduceLT, Nat.reduceEqDiff, Nat.reduceAdd, Nat.reduceBEq, Nat.reduceMul, Nat.reduceSub, reduceIte, Nat.reduceLeDiff, reduceCtorEq, Int.reduceNeg, Int.reduceToNat, Int.reduceEq, Int.reduceNe, Int.reduceLT, Int.reduceLE, hr1, hc2, hr3, hc4d, hc5d, hc6d, hr7, hc8d, hr9, hc10d, hc11d, FinW_ret]
                  repeat' ((with_reducible refine and_bar ?_ ?_); kernel_rfl)
                  obtain rfl := Option.some.inj h
                  exact ⟨_, rfl, (by exact ROk.refl _), (by repeat' (first | exact PureC.val _ | refine PureC.tup ?_ | refine PureC.agg ?_ | exact pure_nil | refine pure_cons ?_ ?_))⟩
                · have hc11d := decide_eq_false hc11
                  first | rw [if_neg hc11] at h | rw [if_neg (ne_true_of_eq_false hc11d)] at h | simp only [hc11d, Bool.not_true, Bool.not_false, Bool.false_eq_true, if_true, if_false] at h
                  obtain ⟨x5, hb12, hx13, h⟩ := gx_some h
                  obtain ⟨hd14, h⟩ := dvx_some h
                  obtain ⟨x6, hb15, hx16, h⟩ := gx_some h
                  obtain ⟨hd17, h⟩ := dvx_some h
                  obtain ⟨x7, hb18, hx19, h⟩ := gx_some h
                  obtain ⟨r8, hr20, h⟩ := Option.bind_eq_some_iff.1 h
                  simp (config := { maxSteps := 4000000 }) only [go_sem, Nat.reduceLT, Nat.reduceEqDiff, Nat.reduceAdd, Nat.reduceBEq, Nat.reduceMul, Nat.reduceSub, reduceIte, Nat.reduceLeDiff, reduceCtorEq, Int.reduceNeg, Int.reduceToNat, Int.reduceEq, Int.reduceNe, Int.reduceLT, Int.reduceLE, hr1, hc2, hr3, hc4d, hc5d, hc6d, hr7, hc8d, hr9, hc10d, hc11d, hb12, hx13, hd14, hb15, hx16, hd17, hb18, hx19, hr20]
                  repeat' ((with_reducible refine and_bar ?_ ?_); kernel_rfl)
                  refine W_cond_dec rfl (fun hc21 => ?_) (fun hc21 => ?_)
                  · have hc21d := decide_eq_true hc21
                    first | rw [if_pos hc21] at h | rw [if_pos hc21d] at h | simp only [hc21d, Bool.not_true, Bool.not_false, Bool.false_eq_true, if_true, if_false] at h
                    simp (config := { maxSteps := 4000000 }) only [go_sem, Nat.reduceLT, Nat.reduceEqDiff, Nat.reduceAdd, Nat.reduceBEq, Nat.reduceMul, Nat.reduceSub, reduceIte, Nat.reduceLeDiff, reduceCtorEq, Int.reduceNeg, Int.reduceToNat, Int.reduceEq, Int.reduceNe, Int.reduceLT, Int.reduceLE, hr1, hc2, hr3, hc4d, hc5d, hc6d, hr7, hc8d, hr9, hc10d, hc11d, hb12, hx13, hd14, hb15, hx16, hd17, hb18, hx19, hr20, hc21d]
                    repeat' ((with_reducible refine and_bar ?_ ?_); kernel_rfl)
                    refine ⟨_, Nat.lt_succ_self _, (r8.1, IntKind.i64.wrap (v9 + 1), IntKind.i64.wrap (v10 + 1)), ?_, h⟩
                    refine weak_roots ?_ ?_
                    · (repeat' (first | exact weakX_nil | refine weakX_cons ?_ ?_)) <;> (first | rfl | simp only [go_sem, Nat.reduceLT, Nat.reduceEqDiff, Nat.reduceAdd, Nat.reduceBEq, Nat.reduceMul, Nat.reduceSub, reduceIte, Nat.reduceLeDiff, reduceCtorEq, Int.reduceNeg, Int.reduceToNat, Int.reduceEq, Int.reduceNe, Int.reduceLT, Int.reduceLE, Bool.or_self, List.length_set, Int.natCast_zero, Int.cast_ofNat_Int, hr1, hc2, hr3, hc4d, hc5d, hc6d, hr7, hc8d, hr9, hc10d, hc11d, hb12, hx13, hd14, hb15, hx16, hd17, hb18, hx19, hr20, hc21d])
                    · (repeat' (first | exact weakR_nil | refine weakR_cons ?_ ?_ ?_)) <;> (first | rfl | simp only [go_sem, Nat.reduceLT, Nat.reduceEqDiff, Nat.reduceAdd, Nat.reduceBEq, Nat.reduceMul, Nat.reduceSub, reduceIte, Nat.reduceLeDiff, reduceCtorEq, Int.reduceNeg, Int.reduceToNat, Int.reduceEq, Int.reduceNe, Int.reduceLT, Int.reduceLE, Bool.or_self, List.length_set, Int.natCast_zero, Int.cast_ofNat_Int, hr1, hc2, hr3, hc4d, hc5d, hc6d, hr7, hc8d, hr9, hc10d, hc11d, hb12, hx13, hd14, hb15, hx16, hd17, hb18, hx19, hr20, hc21d])
                  · have hc21d := decide_eq_false hc21
                    first | rw [if_neg hc21] at h | rw [if_neg (ne_true_of_eq_false hc21d)] at h | simp only [hc21d, Bool.not_true, Bool.not_false, Bool.false_eq_true, if_true, if_false] at h
                    simp (config := { maxSteps := 4000000 }) only [go_sem, Nat.reduceLT, Nat.reduceEqDiff, Nat.reduceAdd, Nat.reduceBEq, Nat.reduceMul, Nat.reduceSub, reduceIte, Nat.reduceLeDiff, reduceCtorEq, Int.reduceNeg, Int.reduceToNat, Int.reduceEq, Int.reduceNe, Int.reduceLT, Int.reduceLE, hr1, hc2, hr3, hc4d, hc5d, hc6d, hr7, hc8d, hr9, hc10d, hc11d, hb12, hx13, hd14, hb15, hx16, hd17, hb18, hx19, hr20, hc21d]
                    repeat' ((with_reducible refine and_bar ?_ ?_); kernel_rfl)
                    refine ⟨_, Nat.lt_succ_self _, (l8, v9, IntKind.i64.wrap (v10 + 1)), ?_, h⟩
                    refine weak_roots ?_ ?_
                    · (repeat' (first | exact weakX_nil | refine weakX_cons ?_ ?_)) <;> (first | rfl | simp only [go_sem, Nat.reduceLT, Nat.reduceEqDiff, Nat.reduceAdd, Nat.reduceBEq, Nat.reduceMul, Nat.reduceSub, reduceIte, Nat.reduceLeDiff, reduceCtorEq, Int.reduceNeg, Int.reduceToNat, Int.reduceEq, Int.reduceNe, Int.reduceLT, Int.reduceLE, Bool.or_self, List.length_set, Int.natCast_zero, Int.cast_ofNat_Int, hr1, hc2, hr3, hc4d, hc5d, hc6d, hr7, hc8d, hr9, hc10d, hc11d, hb12, hx13, hd14, hb15, hx16, hd17, hb18, hx19, hr20, hc21d])
                    · (repeat' (first | exact weakR_nil | refine weakR_cons ?_ ?_ ?_)) <;> (first | rfl | simp only [go_sem, Nat.reduceLT, Nat.reduceEqDiff, Nat.reduceAdd, Nat.reduceBEq, Nat.reduceMul, Nat.reduceSub, reduceIte, Nat.reduceLeDiff, reduceCtorEq, Int.reduceNeg, Int.reduceToNat, Int.reduceEq, Int.reduceNe, Int.reduceLT, Int.reduceLE, Bool.or_self, List.length_set, Int.natCast_zero, Int.cast_ofNat_Int, hr1, hc2, hr3, hc4d, hc5d, hc6d, hr7, hc8d, hr9, hc10d, hc11d, hb12, hx13, hd14, hb15, hx16, hd17, hb18, hx19, hr20, hc21d])
            · have hc8d := decide_eq_false hc8
              first | rw [if_neg hc8] at h | rw [if_neg (ne_true_of_eq_false hc8d)] at h | simp only [hc8d, Bool.not_true, Bool.not_false, Bool.false_eq_true, if_true, if_false] at h
              unfold law35_BalanceLeast_J2 at h
              simp (config := { maxSteps := 4000000 }) only [go_sem, Nat.reduceLT, Nat.reduceEqDiff, Nat.reduceAdd, Nat.reduceBEq, Nat.reduceMul, Nat.reduceSub, reduceIte, Nat.reduceLeDiff, reduceCtorEq, Int.reduceNeg, Int.reduceToNat, Int.reduceEq, Int.reduceNe, Int.reduceLT, Int.reduceLE, hr1, hc2, hr3, hc4d, hc5d, hc6d, hr7, hc8d]
              repeat' ((with_reducible refine and_bar ?_ ?_); kernel_rfl)
              refine W_cond_f rfl ?_
              first | rw [if_pos (rfl : true = true)] at h | rw [if_neg Bool.false_ne_true] at h | skip
              unfold law35_BalanceLeast_J3 at h
              simp (config := { maxSteps := 4000000 }) only [go_sem, Nat.reduceLT, Nat.reduceEqDiff, Nat.reduceAdd, Nat.reduceBEq, Nat.reduceMul, Nat.reduceSub, reduceIte, Nat.reduceLeDiff, reduceCtorEq, Int.reduceNeg, Int.reduceToNat, Int.reduceEq, Int.reduceNe, Int.reduceLT, Int.reduceLE, hr1, hc2, hr3, hc4d, hc5d, hc6d, hr7, hc8d]
              repeat' ((with_reducible refine and_bar ?_ ?_); kernel_rfl)
              refine W_cond_dec rfl (fun hc22 => ?_) (fun hc22 => ?_)
              · have hc22d := decide_eq_true hc22
                first | rw [if_pos hc22] at h | rw [if_pos hc22d] at h | simp only [hc22d, Bool.not_true, Bool.not_false, Bool.false_eq_true, if_true, if_false] at h
                simp (config := { maxSteps := 4000000 }) only [go_sem, Nat.reduceLT, Nat.reduceEqDiff, Nat.reduceAdd, Nat.reduceBEq, Nat.reduceMul, Nat.reduceSub, reduceIte, Nat.reduceLeDiff, reduceCtorEq, Int.reduceNeg, Int.reduceToNat, Int.reduceEq, Int.reduceNe, Int.reduceLT, Int.reduceLE, hr1, hc2, hr3, hc4d, hc5d, hc6d, hr7, hc8d, hc22d, FinW_ret]
                repeat' ((with_reducible refine and_bar ?_ ?_); kernel_rfl)
                obtain rfl := Option.some.inj h
                exact ⟨_, rfl, (by exact ROk.refl _), (by repeat' (first | exact PureC.val _ | refine PureC.tup ?_ | refine PureC.agg ?_ | exact pure_nil | refine pure_cons ?_ ?_))⟩
              · have hc22d := decide_eq_false hc22
                first | rw [if_neg hc22] at h | rw [if_neg (ne_true_of_eq_false hc22d)] at h | simp only [hc22d, Bool.not_true, Bool.not_false, Bool.false_eq_true, if_true, if_false] at h
                obtain ⟨x9, hb23, hx24, h⟩ := gx_some h
                obtain ⟨hd25, h⟩ := dvx_some h
                obtain ⟨x10, hb26, hx27, h⟩ := gx_some h
                obtain ⟨hd28, h⟩ := dvx_some h
                obtain ⟨x11, hb29, hx30, h⟩ := gx_some h
                obtain ⟨r12, hr31, h⟩ := Option.bind_eq_some_iff.1 h
                simp (config := { maxSteps := 4000000 }) only [go_sem, Nat.reduceLT, Nat.reduceEqDiff, Nat.reduceAdd, Nat.reduceBEq, Nat.reduceMul, Nat.reduceSub, reduceIte, Nat.reduceLeDiff, reduceCtorEq, Int.reduceNeg, Int.reduceToNat, Int.reduceEq, Int.reduceNe, Int.reduceLT, Int.reduceLE, hr1, hc2, hr3, hc4d, hc5d, hc6d, hr7, hc8d, hc22d, hb23, hx24, hd25, hb26, hx27, hd28, hb29, hx30, hr31]
                repeat' ((with_reducible refine and_bar ?_ ?_); kernel_rfl)
                refine W_cond_dec rfl (fun hc32 => ?_) (fun hc32 => ?_)
                · have hc32d := decide_eq_true hc32
                  first | rw [if_pos hc32] at h | rw [if_pos hc32d] at h | simp only [hc32d, Bool.not_true, Bool.not_false, Bool.false_eq_true, if_true, if_false] at h
                  simp (config := { maxSteps := 4000000 }) only [go_sem, Nat.reduceLT, Nat.reduceEqDiff, Nat.reduceAdd, Nat.reduceBEq, Nat.reduceMul, Nat.reduceSub, reduceIte, Nat.reduceLeDiff, reduceCtorEq, Int.reduceNeg, Int.reduceToNat, Int.reduceEq, Int.reduceNe, Int.reduceLT, Int.reduceLE, hr1, hc2, hr3, hc4d, hc5d, hc6d, hr7, hc8d, hc22d, hb23, hx24, hd25, hb26, hx27, hd28, hb29, hx30, hr31, hc32d]
                  repeat' ((with_reducible refine and_bar ?_ ?_); kernel_rfl)
                  refine ⟨_, Nat.lt_succ_self _, (r12.1, IntKind.i64.wrap (v9 + 1), IntKind.i64.wrap (v10 + 1)), ?_, h⟩
                  refine weak_roots ?_ ?_
                  · (repeat' (first | exact weakX_nil | refine weakX_cons ?_ ?_)) <;> (first | rfl | simp only [go_sem, Nat.reduceLT, Nat.reduceEqDiff, Nat.reduceAdd, Nat.reduceBEq, Nat.reduceMul, Nat.reduceSub, reduceIte, Nat.reduceLeDiff, reduceCtorEq, Int.reduceNeg, Int.reduceToNat, Int.reduceEq, Int.reduceNe, Int.reduceLT, Int.reduceLE, Bool.or_self, List.length_set, Int.natCast_zero, Int.cast_ofNat_Int, hr1, hc2, hr3, hc4d, hc5d, hc6d, hr7, hc8d, hc22d, hb23, hx24, hd25, hb26, hx27, hd28, hb29, hx30, hr31, hc32d])
                  · (repeat' (first | exact weakR_nil | refine weakR_cons ?_ ?_ ?_)) <;> (first | rfl | simp only [go_sem, Nat.reduceLT, Nat.reduceEqDiff, Nat.reduceAdd, Nat.reduceBEq, Nat.reduceMul, Nat.reduceSub, reduceIte, Nat.reduceLeDiff, reduceCtorEq, Int.reduceNeg, Int.reduceToNat, Int.reduceEq, Int.reduceNe, Int.reduceLT, Int.reduceLE, Bool.or_self, List.length_set, Int.natCast_zero, Int.cast_ofNat_Int, hr1, hc2, hr3, hc4d, hc5d, hc6d, hr7, hc8d, hc22d, hb23, hx24, hd25, hb26, hx27, hd28, hb29, hx30, hr31, hc32d])
                · have hc32d := decide_eq_false hc32
                  first | rw [if_neg hc32] at h | rw [if_neg (ne_true_of_eq_false hc32d)] at h | simp only [hc32d, Bool.not_true, Bool.not_false, Bool.false_eq_true, if_true, if_false] at h
                  simp (config := { maxSteps := 4000000 }) only [go_sem, Nat.reduceLT, Nat.reduceEqDiff, Nat.reduceAdd, Nat.reduceBEq, Nat.reduceMul, Nat.reduceSub, reduceIte, Nat.reduceLeDiff, reduceCtorEq, Int.reduceNeg, Int.reduceToNat, Int.reduceEq, Int.reduceNe, Int.reduceLT, Int.reduceLE, hr1, hc2, hr3, hc4d, hc5d, hc6d, hr7, hc8d, hc22d, hb23, hx24, hd25, hb26, hx27, hd28, hb29, hx30, hr31, hc32d]
                  repeat' ((with_reducible refine and_bar ?_ ?_); kernel_rfl)
                  refine ⟨_, Nat.lt_succ_self _, (l8, v9, IntKind.i64.wrap (v10 + 1)), ?_, h⟩
                  refine weak_roots ?_ ?_
                  · (repeat' (first | exact weakX_nil | refine weakX_cons ?_ ?_)) <;> (first | rfl | simp only [go_sem, Nat.reduceLT, Nat.reduceEqDiff, Nat.reduceAdd, Nat.reduceBEq, Nat.reduceMul, Nat.reduceSub, reduceIte, Nat.reduceLeDiff, reduceCtorEq, Int.reduceNeg, Int.reduceToNat, Int.reduceEq, Int.reduceNe, Int.reduceLT, Int.reduceLE, Bool.or_self, List.length_set, Int.natCast_zero, Int.cast_ofNat_Int, hr1, hc2, hr3, hc4d, hc5d, hc6d, hr7, hc8d, hc22d, hb23, hx24, hd25, hb26, hx27, hd28, hb29, hx30, hr31, hc32d])
                  · (repeat' (first | exact weakR_nil | refine weakR_cons ?_ ?_ ?_)) <;> (first | rfl | simp only [go_sem, Nat.reduceLT, Nat.reduceEqDiff, Nat.reduceAdd, Nat.reduceBEq, Nat.reduceMul, Nat.reduceSub, reduceIte, Nat.reduceLeDiff, reduceCtorEq, Int.reduceNeg, Int.reduceToNat, Int.reduceEq, Int.reduceNe, Int.reduceLT, Int.reduceLE, Bool.or_self, List.length_set, Int.natCast_zero, Int.cast_ofNat_Int, hr1, hc2, hr3, hc4d, hc5d, hc6d, hr7, hc8d, hc22d, hb23, hx24, hd25, hb26, hx27, hd28, hb29, hx30, hr31, hc32d])
          · have hc6d := decide_eq_false hc6
            first | rw [if_neg hc6] at h | rw [if_neg (ne_true_of_eq_false hc6d)] at h | simp only [hc6d, Bool.not_true, Bool.not_false, Bool.false_eq_true, if_true, if_false] at h
            simp (config := { maxSteps := 4000000 }) only [go_sem, Nat.reduceLT, Nat.reduceEqDiff, Nat.reduceAdd, Nat.reduceBEq, Nat.reduceMul, Nat.reduceSub, reduceIte, Nat.reduceLeDiff, reduceCtorEq, Int.reduceNeg, Int.reduceToNat, Int.reduceEq, Int.reduceNe, Int.reduceLT, Int.reduceLE, hr1, hc2, hr3, hc4d, hc5d, hc6d, FinW_ret]
            repeat' ((with_reducible refine and_bar ?_ ?_); kernel_rfl)
            obtain rfl := Option.some.inj h
            exact ⟨_, rfl, (by exact ROk.refl _), (by repeat' (first | exact PureC.val _ | refine PureC.tup ?_ | refine PureC.agg ?_ | exact pure_nil | refine pure_cons ?_ ?_))⟩
def fs_law35_BalanceLeast (N : Nat) : FnS := { own := [], pure := true, fn := fun cs => match cs with
  | [c0, c1] => ((decL 1 (dec1 (decI .u16))) c0).bind fun qc0 => ((decL 1 (dec1 (decI .u16))) c1).bind fun qc1 => (law35_BalanceLeast N qc0 qc1).map fun r => .val (.bool r)
  | _ => none }
theorem fs_law35_BalanceLeast_own (N : Nat) : (fs_law35_BalanceLeast N).own = [] := rfl
theorem fs_law35_BalanceLeast_pure (N : Nat) : (fs_law35_BalanceLeast N).pure = true := rfl
attribute [go_sem] fs_law35_BalanceLeast fs_law35_BalanceLeast_own fs_law35_BalanceLeast_pure
theorem fs_law35_BalanceLeast_ok (N : Nat) : FSOk Try.prog 5 (fs_law35_BalanceLeast N) := by
  refine ⟨fun cs r h => ?_, fun h => by cases h⟩
  simp only [fs_law35_BalanceLeast] at h
  split at h
  · simp only [Option.bind_eq_some_iff, Option.map_eq_some_iff] at h
    obtain ⟨q0, h0, q1, h1, r', hr, rfl⟩ := h
    exact ((w_law35_BalanceLeast N q0 q1 r' hr).args (LeL.cons (decL_le (decI1_le .u16) h0) (LeL.cons (decL_le (decI1_le .u16) h1) (LeL.nil))))
  · cases h

end Go.Proofs.Ytpbloecedgddlaa
end
