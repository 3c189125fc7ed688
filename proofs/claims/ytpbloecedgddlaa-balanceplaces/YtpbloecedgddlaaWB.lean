/- Each Go function computes its model: proofs laid by a program of ours. -/
import Derived.Test.YtpbloecedgddlaaB
import Derived.Test.YtpbloecedgddlaaWA
section
set_option linter.unusedSimpArgs false
set_option linter.unusedVariables false
set_option maxRecDepth 100000
namespace Go.Proofs.Ytpbloecedgddlaa
open Go Go.Proofs Go.Abs
noncomputable def E_law35_BalancePlaces (N : Nat) : Env := { T := tiOf Try.prog, G := fun d f => if d = 18 ∧ f = 8 then some (fs_law35_awake N) else if d = 21 ∧ f = 29 then some (fs_law35_loads N) else if d = 26 ∧ f = 20 then some (fs_balance_Spread N) else if d = 71 ∧ f = 22 then some (fs_balance_Total N) else if d = 81 ∧ f = 9 then some (fs_balance_Place N) else if d = 96 ∧ f = 16 then some (fs_balance_Least N) else if d = 100 ∧ f = 22 then some (fs_balance_Total N) else if d = 109 ∧ f = 20 then some (fs_balance_Spread N) else if d = 114 ∧ f = 20 then some (fs_balance_Spread N) else if d = 123 ∧ f = 20 then some (fs_balance_Spread N) else none }
theorem E_law35_BalancePlaces_T (N : Nat) : (E_law35_BalancePlaces N).T = tiOf Try.prog := rfl
theorem E_law35_BalancePlaces_G0 (N : Nat) : (E_law35_BalancePlaces N).G 18 8 = some (fs_law35_awake N) := rfl
theorem E_law35_BalancePlaces_G1 (N : Nat) : (E_law35_BalancePlaces N).G 21 29 = some (fs_law35_loads N) := rfl
theorem E_law35_BalancePlaces_G2 (N : Nat) : (E_law35_BalancePlaces N).G 26 20 = some (fs_balance_Spread N) := rfl
theorem E_law35_BalancePlaces_G3 (N : Nat) : (E_law35_BalancePlaces N).G 71 22 = some (fs_balance_Total N) := rfl
theorem E_law35_BalancePlaces_G4 (N : Nat) : (E_law35_BalancePlaces N).G 81 9 = some (fs_balance_Place N) := rfl
theorem E_law35_BalancePlaces_G5 (N : Nat) : (E_law35_BalancePlaces N).G 96 16 = some (fs_balance_Least N) := rfl
theorem E_law35_BalancePlaces_G6 (N : Nat) : (E_law35_BalancePlaces N).G 100 22 = some (fs_balance_Total N) := rfl
theorem E_law35_BalancePlaces_G7 (N : Nat) : (E_law35_BalancePlaces N).G 109 20 = some (fs_balance_Spread N) := rfl
theorem E_law35_BalancePlaces_G8 (N : Nat) : (E_law35_BalancePlaces N).G 114 20 = some (fs_balance_Spread N) := rfl
theorem E_law35_BalancePlaces_G9 (N : Nat) : (E_law35_BalancePlaces N).G 123 20 = some (fs_balance_Spread N) := rfl
theorem E_law35_BalancePlaces_ok (N : Nat) : GOk Try.prog { T := tiOf Try.prog, G := (E_law35_BalancePlaces N).G } := by
  intro d f fs hfs
  simp only [E_law35_BalancePlaces] at hfs
  by_cases hc : d = 18 ∧ f = 8
  · rw [if_pos hc] at hfs; obtain ⟨rfl, rfl⟩ := hc; obtain rfl := Option.some.inj hfs; exact fs_law35_awake_ok N
  rw [if_neg hc] at hfs
  by_cases hc : d = 21 ∧ f = 29
  · rw [if_pos hc] at hfs; obtain ⟨rfl, rfl⟩ := hc; obtain rfl := Option.some.inj hfs; exact fs_law35_loads_ok N
  rw [if_neg hc] at hfs
  by_cases hc : d = 26 ∧ f = 20
  · rw [if_pos hc] at hfs; obtain ⟨rfl, rfl⟩ := hc; obtain rfl := Option.some.inj hfs; exact fs_balance_Spread_ok N
  rw [if_neg hc] at hfs
  by_cases hc : d = 71 ∧ f = 22
  · rw [if_pos hc] at hfs; obtain ⟨rfl, rfl⟩ := hc; obtain rfl := Option.some.inj hfs; exact fs_balance_Total_ok N
  rw [if_neg hc] at hfs
  by_cases hc : d = 81 ∧ f = 9
  · rw [if_pos hc] at hfs; obtain ⟨rfl, rfl⟩ := hc; obtain rfl := Option.some.inj hfs; exact fs_balance_Place_ok N
  rw [if_neg hc] at hfs
  by_cases hc : d = 96 ∧ f = 16
  · rw [if_pos hc] at hfs; obtain ⟨rfl, rfl⟩ := hc; obtain rfl := Option.some.inj hfs; exact fs_balance_Least_ok N
  rw [if_neg hc] at hfs
  by_cases hc : d = 100 ∧ f = 22
  · rw [if_pos hc] at hfs; obtain ⟨rfl, rfl⟩ := hc; obtain rfl := Option.some.inj hfs; exact fs_balance_Total_ok N
  rw [if_neg hc] at hfs
  by_cases hc : d = 109 ∧ f = 20
  · rw [if_pos hc] at hfs; obtain ⟨rfl, rfl⟩ := hc; obtain rfl := Option.some.inj hfs; exact fs_balance_Spread_ok N
  rw [if_neg hc] at hfs
  by_cases hc : d = 114 ∧ f = 20
  · rw [if_pos hc] at hfs; obtain ⟨rfl, rfl⟩ := hc; obtain rfl := Option.some.inj hfs; exact fs_balance_Spread_ok N
  rw [if_neg hc] at hfs
  by_cases hc : d = 123 ∧ f = 20
  · rw [if_pos hc] at hfs; obtain ⟨rfl, rfl⟩ := hc; obtain rfl := Option.some.inj hfs; exact fs_balance_Spread_ok N
  rw [if_neg hc] at hfs
  cases hfs
theorem fo_law35_BalancePlaces : FunOk Try.prog 6 Try.f6 Try.f6.body.get! := ⟨Try.func6, rfl, by decide, by kernel_rfl⟩
attribute [go_sem] E_law35_BalancePlaces_T E_law35_BalancePlaces_G0 E_law35_BalancePlaces_G1 E_law35_BalancePlaces_G2 E_law35_BalancePlaces_G3 E_law35_BalancePlaces_G4 E_law35_BalancePlaces_G5 E_law35_BalancePlaces_G6 E_law35_BalancePlaces_G7 E_law35_BalancePlaces_G8 E_law35_BalancePlaces_G9
set_option maxHeartbeats 4000000 in
theorem w_law35_BalancePlaces (N : Nat) (a0 : (List Int)) (a1 : Int) (r : Bool) (h : law35_BalancePlaces N a0 a1 = some r) : Con Try.prog 6 [] true [.sl false none 1 none (a0.map (rowI .u16)), .val (.int .u16 a1)] (.val (.bool r)) := by
  refine fun_ok2 (E := E_law35_BalancePlaces N) (tiOf_ok Try.prog _) (E_law35_BalancePlaces_ok N) mix fo_law35_BalancePlaces (Nat.le_of_ble_eq_true rfl) ?_
  intro _
  rw [entry_tab (by simp)]
  rw [show entryF [] [.sl false none 1 none (a0.map (rowI .u16)), .val (.int .u16 a1)] = (updT (updT deadT 0 (.sl false none 1 none (a0.map (rowI .u16)))) 1 (.val (.int .u16 a1))) from by funext t; match t with | 0 => rfl | 1 => rfl | t + 2 => rfl]
  apply W_start
  simp only [Try.f6, Option.get!, R0_RZ]
  unfold law35_BalancePlaces at h
  obtain ⟨r1, hr1, h⟩ := Option.bind_eq_some_iff.1 h
  simp (config := { maxSteps := 4000000 }) only [go_sem, Nat.reduceLT, Nat.reduceEqDiff, Nat.reduceAdd, Nat.reduceBEq, Nat.reduceMul, Nat.reduceSub, reduceIte, Nat.reduceLeDiff, reduceCtorEq, Int.reduceNeg, Int.reduceToNat, Int.reduceEq, Int.reduceNe, Int.reduceLT, Int.reduceLE, hr1]
  refine W_cond_nbool rfl (fun hc2 => ?_) (fun hc2 => ?_)
  · first | rw [if_neg (ne_true_of_eq_false hc2)] at h | simp only [hc2, Bool.not_true, Bool.not_false, Bool.false_eq_true, if_true, if_false] at h
    simp (config := { maxSteps := 4000000 }) only [go_sem, Nat.reduceLT, Nat.reduceEqDiff, Nat.reduceAdd, Nat.reduceBEq, Nat.reduceMul, Nat.reduceSub, reduceIte, Nat.reduceLeDiff, reduceCtorEq, Int.reduceNeg, Int.reduceToNat, Int.reduceEq, Int.reduceNe, Int.reduceLT, Int.reduceLE, hr1, hc2, FinW_ret]
    obtain rfl := Option.some.inj h
    exact ⟨_, rfl, (by exact ROk.refl _), (by repeat' (first | exact PureC.val _ | refine PureC.tup ?_ | refine PureC.agg ?_ | exact pure_nil | refine pure_cons ?_ ?_))⟩
  · first | rw [if_pos hc2] at h | simp only [hc2, Bool.not_true, Bool.not_false, Bool.false_eq_true, if_true, if_false] at h
    obtain ⟨r2, hr3, h⟩ := Option.bind_eq_some_iff.1 h
    simp (config := { maxSteps := 4000000 }) only [go_sem, Nat.reduceLT, Nat.reduceEqDiff, Nat.reduceAdd, Nat.reduceBEq, Nat.reduceMul, Nat.reduceSub, reduceIte, Nat.reduceLeDiff, reduceCtorEq, Int.reduceNeg, Int.reduceToNat, Int.reduceEq, Int.reduceNe, Int.reduceLT, Int.reduceLE, hr1, hc2, hr3]
    refine W_cond_dec rfl (fun hc4 => ?_) (fun hc4 => ?_)
    · have hc4d := decide_eq_true hc4
      first | rw [if_pos hc4] at h | rw [if_pos hc4d] at h | simp only [hc4d, Bool.not_true, Bool.not_false, Bool.false_eq_true, if_true, if_false] at h
      simp (config := { maxSteps := 4000000 }) only [go_sem, Nat.reduceLT, Nat.reduceEqDiff, Nat.reduceAdd, Nat.reduceBEq, Nat.reduceMul, Nat.reduceSub, reduceIte, Nat.reduceLeDiff, reduceCtorEq, Int.reduceNeg, Int.reduceToNat, Int.reduceEq, Int.reduceNe, Int.reduceLT, Int.reduceLE, hr1, hc2, hr3, hc4d, FinW_ret]
      obtain rfl := Option.some.inj h
      exact ⟨_, rfl, (by exact ROk.refl _), (by repeat' (first | exact PureC.val _ | refine PureC.tup ?_ | refine PureC.agg ?_ | exact pure_nil | refine pure_cons ?_ ?_))⟩
    · have hc4d := decide_eq_false hc4
      first | rw [if_neg hc4] at h | rw [if_neg (ne_true_of_eq_false hc4d)] at h | simp only [hc4d, Bool.not_true, Bool.not_false, Bool.false_eq_true, if_true, if_false] at h
      obtain ⟨r3, hr5, h⟩ := Option.bind_eq_some_iff.1 h
      simp (config := { maxSteps := 4000000 }) only [go_sem, Nat.reduceLT, Nat.reduceEqDiff, Nat.reduceAdd, Nat.reduceBEq, Nat.reduceMul, Nat.reduceSub, reduceIte, Nat.reduceLeDiff, reduceCtorEq, Int.reduceNeg, Int.reduceToNat, Int.reduceEq, Int.reduceNe, Int.reduceLT, Int.reduceLE, hr1, hc2, hr3, hc4d, hr5]
      refine W_real fun hreal7 => ?_
      have hl6 := hreal7.lenT 5 (by decide) (by simp only [go_sem, Nat.reduceLT, Nat.reduceEqDiff, Nat.reduceAdd, Nat.reduceBEq, Nat.reduceMul, Nat.reduceSub, reduceIte, Nat.reduceLeDiff, reduceCtorEq, Int.reduceNeg, Int.reduceToNat, Int.reduceEq, Int.reduceNe, Int.reduceLT, Int.reduceLE, Bool.or_self, List.length_set, Int.natCast_zero, Int.cast_ofNat_Int, hr1, hc2, hr3, hc4d, hr5]; rfl)
      rw [List.length_map] at hl6
      refine W_range (fun (v8 : Nat) (b : Int) => ⟨tab 126 (updT (updT (updT (updT (updT deadT 1 (.val (.int .u16 a1))) 5 (.sl false none 2 none (r2.map Load.row))) 6 (.val (.int .i64 (if 1 > r3 then 1 else r3)))) 7 (.val (.int .i64 b))) 8 (.val (.int .i64 ((v8 : Nat) : Int)))), RZ⟩) 0 h ?_ ?_
      · refine weak_roots ?_ ?_
        · (repeat' (first | exact weakX_nil | refine weakX_cons ?_ ?_)) <;> (first | rfl | simp only [go_sem, Nat.reduceLT, Nat.reduceEqDiff, Nat.reduceAdd, Nat.reduceBEq, Nat.reduceMul, Nat.reduceSub, reduceIte, Nat.reduceLeDiff, reduceCtorEq, Int.reduceNeg, Int.reduceToNat, Int.reduceEq, Int.reduceNe, Int.reduceLT, Int.reduceLE, Bool.or_self, List.length_set, Int.natCast_zero, Int.cast_ofNat_Int, hr1, hc2, hr3, hc4d, hr5])
        · (repeat' (first | exact weakR_nil | refine weakR_cons ?_ ?_ ?_)) <;> (first | rfl | simp only [go_sem, Nat.reduceLT, Nat.reduceEqDiff, Nat.reduceAdd, Nat.reduceBEq, Nat.reduceMul, Nat.reduceSub, reduceIte, Nat.reduceLeDiff, reduceCtorEq, Int.reduceNeg, Int.reduceToNat, Int.reduceEq, Int.reduceNe, Int.reduceLT, Int.reduceLE, Bool.or_self, List.length_set, Int.natCast_zero, Int.cast_ofNat_Int, hr1, hc2, hr3, hc4d, hr5])
      · rintro v8 v7 hi8 h -
        rcases drop_cases r2 v8 hi8 with ⟨x11, hi8', hx9, hd11⟩ | ⟨hi8', _, hd11⟩
        · rw [hd11] at h
          simp only [law35_BalancePlaces_L1] at h
          have hw10 := wrap_succ hi8' hl6
          simp (config := { maxSteps := 4000000 }) only [go_sem, Nat.reduceLT, Nat.reduceEqDiff, Nat.reduceAdd, Nat.reduceBEq, Nat.reduceMul, Nat.reduceSub, reduceIte, Nat.reduceLeDiff, reduceCtorEq, Int.reduceNeg, Int.reduceToNat, Int.reduceEq, Int.reduceNe, Int.reduceLT, Int.reduceLE, hr1, hc2, hr3, hc4d, hr5, hx9, hi8', hw10]
          refine W_cond_t rfl ?_
          simp (config := { maxSteps := 4000000 }) only [go_sem, Nat.reduceLT, Nat.reduceEqDiff, Nat.reduceAdd, Nat.reduceBEq, Nat.reduceMul, Nat.reduceSub, reduceIte, Nat.reduceLeDiff, reduceCtorEq, Int.reduceNeg, Int.reduceToNat, Int.reduceEq, Int.reduceNe, Int.reduceLT, Int.reduceLE, hr1, hc2, hr3, hc4d, hr5, hx9, hi8', hw10]
          first | refine ⟨(IntKind.i64.wrap (v7 + (IntKind.i64.wrap (1000 - x11.Actors)))), ?_, h⟩ | refine ⟨hi8', (IntKind.i64.wrap (v7 + (IntKind.i64.wrap (1000 - x11.Actors)))), ?_, h⟩
          refine weak_roots ?_ ?_
          · (repeat' (first | exact weakX_nil | refine weakX_cons ?_ ?_)) <;> (first | rfl | simp only [go_sem, Nat.reduceLT, Nat.reduceEqDiff, Nat.reduceAdd, Nat.reduceBEq, Nat.reduceMul, Nat.reduceSub, reduceIte, Nat.reduceLeDiff, reduceCtorEq, Int.reduceNeg, Int.reduceToNat, Int.reduceEq, Int.reduceNe, Int.reduceLT, Int.reduceLE, Bool.or_self, List.length_set, Int.natCast_zero, Int.cast_ofNat_Int, hr1, hc2, hr3, hc4d, hr5, hx9, hi8', hw10])
          · (repeat' (first | exact weakR_nil | refine weakR_cons ?_ ?_ ?_)) <;> (first | rfl | simp only [go_sem, Nat.reduceLT, Nat.reduceEqDiff, Nat.reduceAdd, Nat.reduceBEq, Nat.reduceMul, Nat.reduceSub, reduceIte, Nat.reduceLeDiff, reduceCtorEq, Int.reduceNeg, Int.reduceToNat, Int.reduceEq, Int.reduceNe, Int.reduceLT, Int.reduceLE, Bool.or_self, List.length_set, Int.natCast_zero, Int.cast_ofNat_Int, hr1, hc2, hr3, hc4d, hr5, hx9, hi8', hw10])
        · rw [hd11] at h
          simp only [law35_BalancePlaces_L1] at h
          simp (config := { maxSteps := 4000000 }) only [go_sem, Nat.reduceLT, Nat.reduceEqDiff, Nat.reduceAdd, Nat.reduceBEq, Nat.reduceMul, Nat.reduceSub, reduceIte, Nat.reduceLeDiff, reduceCtorEq, Int.reduceNeg, Int.reduceToNat, Int.reduceEq, Int.reduceNe, Int.reduceLT, Int.reduceLE, hr1, hc2, hr3, hc4d, hr5, hi8']
          refine W_cond_f rfl ?_
          unfold law35_BalancePlaces_J6 at h
          simp (config := { maxSteps := 4000000 }) only [go_sem, Nat.reduceLT, Nat.reduceEqDiff, Nat.reduceAdd, Nat.reduceBEq, Nat.reduceMul, Nat.reduceSub, reduceIte, Nat.reduceLeDiff, reduceCtorEq, Int.reduceNeg, Int.reduceToNat, Int.reduceEq, Int.reduceNe, Int.reduceLT, Int.reduceLE, hr1, hc2, hr3, hc4d, hr5, hi8']
          refine W_real fun hreal13 => ?_
          have hl12 := hreal13.lenT 5 (by decide) (by simp only [go_sem, Nat.reduceLT, Nat.reduceEqDiff, Nat.reduceAdd, Nat.reduceBEq, Nat.reduceMul, Nat.reduceSub, reduceIte, Nat.reduceLeDiff, reduceCtorEq, Int.reduceNeg, Int.reduceToNat, Int.reduceEq, Int.reduceNe, Int.reduceLT, Int.reduceLE, Bool.or_self, List.length_set, Int.natCast_zero, Int.cast_ofNat_Int, hr1, hc2, hr3, hc4d, hr5, hi8']; rfl)
          rw [List.length_map] at hl12
          refine W_range (fun (v17 : Nat) (b : Int) => ⟨tab 126 (updT (updT (updT (updT (updT (updT (updT deadT 1 (.val (.int .u16 a1))) 5 (.sl false none 2 none (r2.map Load.row))) 6 (.val (.int .i64 (if 1 > r3 then 1 else r3)))) 7 (.val (.int .i64 v7))) 9 (.val (.int .i64 0))) 10 (.val (.int .i64 b))) 11 (.val (.int .i64 ((v17 : Nat) : Int)))), RZ⟩) 0 h ?_ ?_
          · refine weak_roots ?_ ?_
            · (repeat' (first | exact weakX_nil | refine weakX_cons ?_ ?_)) <;> (first | rfl | simp only [go_sem, Nat.reduceLT, Nat.reduceEqDiff, Nat.reduceAdd, Nat.reduceBEq, Nat.reduceMul, Nat.reduceSub, reduceIte, Nat.reduceLeDiff, reduceCtorEq, Int.reduceNeg, Int.reduceToNat, Int.reduceEq, Int.reduceNe, Int.reduceLT, Int.reduceLE, Bool.or_self, List.length_set, Int.natCast_zero, Int.cast_ofNat_Int, hr1, hc2, hr3, hc4d, hr5, hi8'])
            · (repeat' (first | exact weakR_nil | refine weakR_cons ?_ ?_ ?_)) <;> (first | rfl | simp only [go_sem, Nat.reduceLT, Nat.reduceEqDiff, Nat.reduceAdd, Nat.reduceBEq, Nat.reduceMul, Nat.reduceSub, reduceIte, Nat.reduceLeDiff, reduceCtorEq, Int.reduceNeg, Int.reduceToNat, Int.reduceEq, Int.reduceNe, Int.reduceLT, Int.reduceLE, Bool.or_self, List.length_set, Int.natCast_zero, Int.cast_ofNat_Int, hr1, hc2, hr3, hc4d, hr5, hi8'])
          · rintro v17 v16 hi14 h -
            rcases drop_cases r2 v17 hi14 with ⟨x20, hi14', hx15, hd17⟩ | ⟨hi14', _, hd17⟩
            · rw [hd17] at h
              simp only [law35_BalancePlaces_L2] at h
              have hw16 := wrap_succ hi14' hl12
              simp (config := { maxSteps := 4000000 }) only [go_sem, Nat.reduceLT, Nat.reduceEqDiff, Nat.reduceAdd, Nat.reduceBEq, Nat.reduceMul, Nat.reduceSub, reduceIte, Nat.reduceLeDiff, reduceCtorEq, Int.reduceNeg, Int.reduceToNat, Int.reduceEq, Int.reduceNe, Int.reduceLT, Int.reduceLE, hr1, hc2, hr3, hc4d, hr5, hi8', hx15, hi14', hw16]
              refine W_cond_t rfl ?_
              simp (config := { maxSteps := 4000000 }) only [go_sem, Nat.reduceLT, Nat.reduceEqDiff, Nat.reduceAdd, Nat.reduceBEq, Nat.reduceMul, Nat.reduceSub, reduceIte, Nat.reduceLeDiff, reduceCtorEq, Int.reduceNeg, Int.reduceToNat, Int.reduceEq, Int.reduceNe, Int.reduceLT, Int.reduceLE, hr1, hc2, hr3, hc4d, hr5, hi8', hx15, hi14', hw16]
              first | refine ⟨(if x20.Actors > v16 then x20.Actors else v16), ?_, h⟩ | refine ⟨hi14', (if x20.Actors > v16 then x20.Actors else v16), ?_, h⟩
              refine weak_roots ?_ ?_
              · (repeat' (first | exact weakX_nil | refine weakX_cons ?_ ?_)) <;> (first | rfl | simp only [go_sem, Nat.reduceLT, Nat.reduceEqDiff, Nat.reduceAdd, Nat.reduceBEq, Nat.reduceMul, Nat.reduceSub, reduceIte, Nat.reduceLeDiff, reduceCtorEq, Int.reduceNeg, Int.reduceToNat, Int.reduceEq, Int.reduceNe, Int.reduceLT, Int.reduceLE, Bool.or_self, List.length_set, Int.natCast_zero, Int.cast_ofNat_Int, hr1, hc2, hr3, hc4d, hr5, hi8', hx15, hi14', hw16])
              · (repeat' (first | exact weakR_nil | refine weakR_cons ?_ ?_ ?_)) <;> (first | rfl | simp only [go_sem, Nat.reduceLT, Nat.reduceEqDiff, Nat.reduceAdd, Nat.reduceBEq, Nat.reduceMul, Nat.reduceSub, reduceIte, Nat.reduceLeDiff, reduceCtorEq, Int.reduceNeg, Int.reduceToNat, Int.reduceEq, Int.reduceNe, Int.reduceLT, Int.reduceLE, Bool.or_self, List.length_set, Int.natCast_zero, Int.cast_ofNat_Int, hr1, hc2, hr3, hc4d, hr5, hi8', hx15, hi14', hw16])
            · rw [hd17] at h
              simp only [law35_BalancePlaces_L2] at h
              simp (config := { maxSteps := 4000000 }) only [go_sem, Nat.reduceLT, Nat.reduceEqDiff, Nat.reduceAdd, Nat.reduceBEq, Nat.reduceMul, Nat.reduceSub, reduceIte, Nat.reduceLeDiff, reduceCtorEq, Int.reduceNeg, Int.reduceToNat, Int.reduceEq, Int.reduceNe, Int.reduceLT, Int.reduceLE, hr1, hc2, hr3, hc4d, hr5, hi8', hi14']
              refine W_cond_f rfl ?_
              unfold law35_BalancePlaces_J5 at h
              simp (config := { maxSteps := 4000000 }) only [go_sem, Nat.reduceLT, Nat.reduceEqDiff, Nat.reduceAdd, Nat.reduceBEq, Nat.reduceMul, Nat.reduceSub, reduceIte, Nat.reduceLeDiff, reduceCtorEq, Int.reduceNeg, Int.reduceToNat, Int.reduceEq, Int.reduceNe, Int.reduceLT, Int.reduceLE, hr1, hc2, hr3, hc4d, hr5, hi8', hi14']
              refine W_real fun hreal19 => ?_
              have hl18 := hreal19.lenT 5 (by decide) (by simp only [go_sem, Nat.reduceLT, Nat.reduceEqDiff, Nat.reduceAdd, Nat.reduceBEq, Nat.reduceMul, Nat.reduceSub, reduceIte, Nat.reduceLeDiff, reduceCtorEq, Int.reduceNeg, Int.reduceToNat, Int.reduceEq, Int.reduceNe, Int.reduceLT, Int.reduceLE, Bool.or_self, List.length_set, Int.natCast_zero, Int.cast_ofNat_Int, hr1, hc2, hr3, hc4d, hr5, hi8', hi14']; rfl)
              rw [List.length_map] at hl18
              refine W_range (fun (v26 : Nat) (b : Int) => ⟨tab 126 (updT (updT (updT (updT (updT (updT (updT deadT 1 (.val (.int .u16 a1))) 5 (.sl false none 2 none (r2.map Load.row))) 6 (.val (.int .i64 (if 1 > r3 then 1 else r3)))) 7 (.val (.int .i64 v7))) 9 (.val (.int .i64 b))) 10 (.val (.int .i64 v16))) 12 (.val (.int .i64 ((v26 : Nat) : Int)))), RZ⟩) 0 h ?_ ?_
              · refine weak_roots ?_ ?_
                · (repeat' (first | exact weakX_nil | refine weakX_cons ?_ ?_)) <;> (first | rfl | simp only [go_sem, Nat.reduceLT, Nat.reduceEqDiff, Nat.reduceAdd, Nat.reduceBEq, Nat.reduceMul, Nat.reduceSub, reduceIte, Nat.reduceLeDiff, reduceCtorEq, Int.reduceNeg, Int.reduceToNat, Int.reduceEq, Int.reduceNe, Int.reduceLT, Int.reduceLE, Bool.or_self, List.length_set, Int.natCast_zero, Int.cast_ofNat_Int, hr1, hc2, hr3, hc4d, hr5, hi8', hi14'])
                · (repeat' (first | exact weakR_nil | refine weakR_cons ?_ ?_ ?_)) <;> (first | rfl | simp only [go_sem, Nat.reduceLT, Nat.reduceEqDiff, Nat.reduceAdd, Nat.reduceBEq, Nat.reduceMul, Nat.reduceSub, reduceIte, Nat.reduceLeDiff, reduceCtorEq, Int.reduceNeg, Int.reduceToNat, Int.reduceEq, Int.reduceNe, Int.reduceLT, Int.reduceLE, Bool.or_self, List.length_set, Int.natCast_zero, Int.cast_ofNat_Int, hr1, hc2, hr3, hc4d, hr5, hi8', hi14'])
              · rintro v26 v25 hi20 h -
                rcases drop_cases r2 v26 hi20 with ⟨x29, hi20', hx21, hd23⟩ | ⟨hi20', _, hd23⟩
                · rw [hd23] at h
                  simp only [law35_BalancePlaces_L3] at h
                  have hw22 := wrap_succ hi20' hl18
                  simp (config := { maxSteps := 4000000 }) only [go_sem, Nat.reduceLT, Nat.reduceEqDiff, Nat.reduceAdd, Nat.reduceBEq, Nat.reduceMul, Nat.reduceSub, reduceIte, Nat.reduceLeDiff, reduceCtorEq, Int.reduceNeg, Int.reduceToNat, Int.reduceEq, Int.reduceNe, Int.reduceLT, Int.reduceLE, hr1, hc2, hr3, hc4d, hr5, hi8', hi14', hx21, hi20', hw22]
                  refine W_cond_t rfl ?_
                  simp (config := { maxSteps := 4000000 }) only [go_sem, Nat.reduceLT, Nat.reduceEqDiff, Nat.reduceAdd, Nat.reduceBEq, Nat.reduceMul, Nat.reduceSub, reduceIte, Nat.reduceLeDiff, reduceCtorEq, Int.reduceNeg, Int.reduceToNat, Int.reduceEq, Int.reduceNe, Int.reduceLT, Int.reduceLE, hr1, hc2, hr3, hc4d, hr5, hi8', hi14', hx21, hi20', hw22]
                  first | refine ⟨(IntKind.i64.wrap (v25 + (IntKind.i64.wrap (v16 - x29.Actors)))), ?_, h⟩ | refine ⟨hi20', (IntKind.i64.wrap (v25 + (IntKind.i64.wrap (v16 - x29.Actors)))), ?_, h⟩
                  refine weak_roots ?_ ?_
                  · (repeat' (first | exact weakX_nil | refine weakX_cons ?_ ?_)) <;> (first | rfl | simp only [go_sem, Nat.reduceLT, Nat.reduceEqDiff, Nat.reduceAdd, Nat.reduceBEq, Nat.reduceMul, Nat.reduceSub, reduceIte, Nat.reduceLeDiff, reduceCtorEq, Int.reduceNeg, Int.reduceToNat, Int.reduceEq, Int.reduceNe, Int.reduceLT, Int.reduceLE, Bool.or_self, List.length_set, Int.natCast_zero, Int.cast_ofNat_Int, hr1, hc2, hr3, hc4d, hr5, hi8', hi14', hx21, hi20', hw22])
                  · (repeat' (first | exact weakR_nil | refine weakR_cons ?_ ?_ ?_)) <;> (first | rfl | simp only [go_sem, Nat.reduceLT, Nat.reduceEqDiff, Nat.reduceAdd, Nat.reduceBEq, Nat.reduceMul, Nat.reduceSub, reduceIte, Nat.reduceLeDiff, reduceCtorEq, Int.reduceNeg, Int.reduceToNat, Int.reduceEq, Int.reduceNe, Int.reduceLT, Int.reduceLE, Bool.or_self, List.length_set, Int.natCast_zero, Int.cast_ofNat_Int, hr1, hc2, hr3, hc4d, hr5, hi8', hi14', hx21, hi20', hw22])
                · rw [hd23] at h
                  simp only [law35_BalancePlaces_L3] at h
                  simp (config := { maxSteps := 4000000 }) only [go_sem, Nat.reduceLT, Nat.reduceEqDiff, Nat.reduceAdd, Nat.reduceBEq, Nat.reduceMul, Nat.reduceSub, reduceIte, Nat.reduceLeDiff, reduceCtorEq, Int.reduceNeg, Int.reduceToNat, Int.reduceEq, Int.reduceNe, Int.reduceLT, Int.reduceLE, hr1, hc2, hr3, hc4d, hr5, hi8', hi14', hi20']
                  refine W_cond_f rfl ?_
                  unfold law35_BalancePlaces_J4 at h
                  obtain ⟨r4, hr24, h⟩ := Option.bind_eq_some_iff.1 h
                  simp (config := { maxSteps := 4000000 }) only [go_sem, Nat.reduceLT, Nat.reduceEqDiff, Nat.reduceAdd, Nat.reduceBEq, Nat.reduceMul, Nat.reduceSub, reduceIte, Nat.reduceLeDiff, reduceCtorEq, Int.reduceNeg, Int.reduceToNat, Int.reduceEq, Int.reduceNe, Int.reduceLT, Int.reduceLE, hr1, hc2, hr3, hc4d, hr5, hi8', hi14', hi20', hr24]
                  refine W_fuel (fun (b : List Load × Int × Int) => ⟨tab 126 (updT (updT (updT (updT (updT (updT (updT deadT 1 (.val (.int .u16 a1))) 5 (.sl false none 2 none (b.1.map Load.row))) 6 (.val (.int .i64 b.2.1))) 7 (.val (.int .i64 v7))) 9 (.val (.int .i64 v25))) 13 (.val (.int .i64 r4))) 14 (.val (.int .i64 b.2.2))), RZ⟩) (r2, (if 1 > r3 then 1 else r3), 0) h ?_ ?_
                  · refine weak_roots ?_ ?_
                    · (repeat' (first | exact weakX_nil | refine weakX_cons ?_ ?_)) <;> (first | rfl | simp only [go_sem, Nat.reduceLT, Nat.reduceEqDiff, Nat.reduceAdd, Nat.reduceBEq, Nat.reduceMul, Nat.reduceSub, reduceIte, Nat.reduceLeDiff, reduceCtorEq, Int.reduceNeg, Int.reduceToNat, Int.reduceEq, Int.reduceNe, Int.reduceLT, Int.reduceLE, Bool.or_self, List.length_set, Int.natCast_zero, Int.cast_ofNat_Int, hr1, hc2, hr3, hc4d, hr5, hi8', hi14', hi20', hr24])
                    · (repeat' (first | exact weakR_nil | refine weakR_cons ?_ ?_ ?_)) <;> (first | rfl | simp only [go_sem, Nat.reduceLT, Nat.reduceEqDiff, Nat.reduceAdd, Nat.reduceBEq, Nat.reduceMul, Nat.reduceSub, reduceIte, Nat.reduceLeDiff, reduceCtorEq, Int.reduceNeg, Int.reduceToNat, Int.reduceEq, Int.reduceNe, Int.reduceLT, Int.reduceLE, Bool.or_self, List.length_set, Int.natCast_zero, Int.cast_ofNat_Int, hr1, hc2, hr3, hc4d, hr5, hi8', hi14', hi20', hr24])
                  · rintro n ⟨l35, v36, v37⟩ h -
                    cases n with
                    | zero => simp [law35_BalancePlaces_L4] at h
                    | succ n =>
                    simp only [law35_BalancePlaces_L4] at h
                    simp (config := { maxSteps := 4000000 }) only [go_sem, Nat.reduceLT, Nat.reduceEqDiff, Nat.reduceAdd, Nat.reduceBEq, Nat.reduceMul, Nat.reduceSub, reduceIte, Nat.reduceLeDiff, reduceCtorEq, Int.reduceNeg, Int.reduceToNat, Int.reduceEq, Int.reduceNe, Int.reduceLT, Int.reduceLE, hr1, hc2, hr3, hc4d, hr5, hi8', hi14', hi20', hr24]
                    refine W_cond_dec rfl (fun hc25 => ?_) (fun hc25 => ?_)
                    · have hc25d := decide_eq_true hc25
                      first | rw [if_pos hc25] at h | rw [if_pos hc25d] at h | simp only [hc25d, Bool.not_true, Bool.not_false, Bool.false_eq_true, if_true, if_false] at h
                      obtain ⟨r5, hr26, h⟩ := Option.bind_eq_some_iff.1 h
                      simp (config := { maxSteps := 4000000 }) only [go_sem, Nat.reduceLT, Nat.reduceEqDiff, Nat.reduceAdd, Nat.reduceBEq, Nat.reduceMul, Nat.reduceSub, reduceIte, Nat.reduceLeDiff, reduceCtorEq, Int.reduceNeg, Int.reduceToNat, Int.reduceEq, Int.reduceNe, Int.reduceLT, Int.reduceLE, hr1, hc2, hr3, hc4d, hr5, hi8', hi14', hi20', hr24, hc25d, hr26]
                      refine W_cond_ndec rfl (fun hc27 => ?_) (fun hc27 => ?_)
                      · have hc27d := decide_eq_false hc27
                        first | rw [if_neg hc27] at h | rw [if_neg (ne_true_of_eq_false hc27d)] at h | simp only [hc27d, Bool.not_true, Bool.not_false, Bool.false_eq_true, if_true, if_false] at h
                        simp (config := { maxSteps := 4000000 }) only [go_sem, Nat.reduceLT, Nat.reduceEqDiff, Nat.reduceAdd, Nat.reduceBEq, Nat.reduceMul, Nat.reduceSub, reduceIte, Nat.reduceLeDiff, reduceCtorEq, Int.reduceNeg, Int.reduceToNat, Int.reduceEq, Int.reduceNe, Int.reduceLT, Int.reduceLE, hr1, hc2, hr3, hc4d, hr5, hi8', hi14', hi20', hr24, hc25d, hr26, hc27d]
                        refine RX_guard_dec rfl (fun hc28 => ?_) (fun hc28 => ?_)
                        · have hc28d := decide_eq_true hc28
                          first | rw [if_pos hc28] at h | rw [if_pos hc28d] at h | simp only [hc28d, Bool.not_true, Bool.not_false, Bool.false_eq_true, if_true, if_false] at h
                          simp (config := { maxSteps := 4000000 }) only [go_sem, Nat.reduceLT, Nat.reduceEqDiff, Nat.reduceAdd, Nat.reduceBEq, Nat.reduceMul, Nat.reduceSub, reduceIte, Nat.reduceLeDiff, reduceCtorEq, Int.reduceNeg, Int.reduceToNat, Int.reduceEq, Int.reduceNe, Int.reduceLT, Int.reduceLE, hr1, hc2, hr3, hc4d, hr5, hi8', hi14', hi20', hr24, hc25d, hr26, hc27d, hc28d, FinW_ret]
                          obtain rfl := Option.some.inj h
                          exact ⟨_, rfl, (by exact ROk.refl _), (by repeat' (first | exact PureC.val _ | refine PureC.tup ?_ | refine PureC.agg ?_ | exact pure_nil | refine pure_cons ?_ ?_))⟩
                        · have hc28d := decide_eq_false hc28
                          first | rw [if_neg hc28] at h | rw [if_neg (ne_true_of_eq_false hc28d)] at h | simp only [hc28d, Bool.not_true, Bool.not_false, Bool.false_eq_true, if_true, if_false] at h
                          simp (config := { maxSteps := 4000000 }) only [go_sem, Nat.reduceLT, Nat.reduceEqDiff, Nat.reduceAdd, Nat.reduceBEq, Nat.reduceMul, Nat.reduceSub, reduceIte, Nat.reduceLeDiff, reduceCtorEq, Int.reduceNeg, Int.reduceToNat, Int.reduceEq, Int.reduceNe, Int.reduceLT, Int.reduceLE, hr1, hc2, hr3, hc4d, hr5, hi8', hi14', hi20', hr24, hc25d, hr26, hc27d, hc28d, FinW_ret]
                          obtain rfl := Option.some.inj h
                          exact ⟨_, rfl, (by exact ROk.refl _), (by repeat' (first | exact PureC.val _ | refine PureC.tup ?_ | refine PureC.agg ?_ | exact pure_nil | refine pure_cons ?_ ?_))⟩
                      · have hc27d := decide_eq_true hc27
                        first | rw [if_pos hc27] at h | rw [if_pos hc27d] at h | simp only [hc27d, Bool.not_true, Bool.not_false, Bool.false_eq_true, if_true, if_false] at h
                        obtain ⟨r6, hr29, h⟩ := Option.bind_eq_some_iff.1 h
                        simp (config := { maxSteps := 4000000 }) only [go_sem, Nat.reduceLT, Nat.reduceEqDiff, Nat.reduceAdd, Nat.reduceBEq, Nat.reduceMul, Nat.reduceSub, reduceIte, Nat.reduceLeDiff, reduceCtorEq, Int.reduceNeg, Int.reduceToNat, Int.reduceEq, Int.reduceNe, Int.reduceLT, Int.reduceLE, hr1, hc2, hr3, hc4d, hr5, hi8', hi14', hi20', hr24, hc25d, hr26, hc27d, hr29]
                        refine RX_guard_ndec rfl (fun hc30 => ?_) (fun hc30 => ?_)
                        · have hc30d := decide_eq_false hc30
                          first | rw [if_neg hc30] at h | rw [if_neg (ne_true_of_eq_false hc30d)] at h | simp only [hc30d, Bool.not_true, Bool.not_false, Bool.false_eq_true, if_true, if_false] at h
                          unfold law35_BalancePlaces_J1 at h
                          simp (config := { maxSteps := 4000000 }) only [go_sem, Nat.reduceLT, Nat.reduceEqDiff, Nat.reduceAdd, Nat.reduceBEq, Nat.reduceMul, Nat.reduceSub, reduceIte, Nat.reduceLeDiff, reduceCtorEq, Int.reduceNeg, Int.reduceToNat, Int.reduceEq, Int.reduceNe, Int.reduceLT, Int.reduceLE, hr1, hc2, hr3, hc4d, hr5, hi8', hi14', hi20', hr24, hc25d, hr26, hc27d, hr29, hc30d]
                          refine W_cond_t rfl ?_
                          first | rw [if_pos (rfl : true = true)] at h | rw [if_neg Bool.false_ne_true] at h | skip
                          simp (config := { maxSteps := 4000000 }) only [go_sem, Nat.reduceLT, Nat.reduceEqDiff, Nat.reduceAdd, Nat.reduceBEq, Nat.reduceMul, Nat.reduceSub, reduceIte, Nat.reduceLeDiff, reduceCtorEq, Int.reduceNeg, Int.reduceToNat, Int.reduceEq, Int.reduceNe, Int.reduceLT, Int.reduceLE, hr1, hc2, hr3, hc4d, hr5, hi8', hi14', hi20', hr24, hc25d, hr26, hc27d, hr29, hc30d, FinW_ret]
                          obtain rfl := Option.some.inj h
                          exact ⟨_, rfl, (by exact ROk.refl _), (by repeat' (first | exact PureC.val _ | refine PureC.tup ?_ | refine PureC.agg ?_ | exact pure_nil | refine pure_cons ?_ ?_))⟩
                        · have hc30d := decide_eq_true hc30
                          first | rw [if_pos hc30] at h | rw [if_pos hc30d] at h | simp only [hc30d, Bool.not_true, Bool.not_false, Bool.false_eq_true, if_true, if_false] at h
                          obtain ⟨r7, hr31, h⟩ := Option.bind_eq_some_iff.1 h
                          simp (config := { maxSteps := 4000000 }) only [go_sem, Nat.reduceLT, Nat.reduceEqDiff, Nat.reduceAdd, Nat.reduceBEq, Nat.reduceMul, Nat.reduceSub, reduceIte, Nat.reduceLeDiff, reduceCtorEq, Int.reduceNeg, Int.reduceToNat, Int.reduceEq, Int.reduceNe, Int.reduceLT, Int.reduceLE, hr1, hc2, hr3, hc4d, hr5, hi8', hi14', hi20', hr24, hc25d, hr26, hc27d, hr29, hc30d, hr31]
                          refine RX_guard_ndec rfl (fun hc32 => ?_) (fun hc32 => ?_)
                          · have hc32d := decide_eq_false hc32
                            first | rw [if_neg hc32] at h | rw [if_neg (ne_true_of_eq_false hc32d)] at h | simp only [hc32d, Bool.not_true, Bool.not_false, Bool.false_eq_true, if_true, if_false] at h
                            unfold law35_BalancePlaces_J1 at h
                            simp (config := { maxSteps := 4000000 }) only [go_sem, Nat.reduceLT, Nat.reduceEqDiff, Nat.reduceAdd, Nat.reduceBEq, Nat.reduceMul, Nat.reduceSub, reduceIte, Nat.reduceLeDiff, reduceCtorEq, Int.reduceNeg, Int.reduceToNat, Int.reduceEq, Int.reduceNe, Int.reduceLT, Int.reduceLE, hr1, hc2, hr3, hc4d, hr5, hi8', hi14', hi20', hr24, hc25d, hr26, hc27d, hr29, hc30d, hr31, hc32d]
                            refine W_cond_t rfl ?_
                            first | rw [if_pos (rfl : true = true)] at h | rw [if_neg Bool.false_ne_true] at h | skip
                            simp (config := { maxSteps := 4000000 }) only [go_sem, Nat.reduceLT, Nat.reduceEqDiff, Nat.reduceAdd, Nat.reduceBEq, Nat.reduceMul, Nat.reduceSub, reduceIte, Nat.reduceLeDiff, reduceCtorEq, Int.reduceNeg, Int.reduceToNat, Int.reduceEq, Int.reduceNe, Int.reduceLT, Int.reduceLE, hr1, hc2, hr3, hc4d, hr5, hi8', hi14', hi20', hr24, hc25d, hr26, hc27d, hr29, hc30d, hr31, hc32d, FinW_ret]
                            obtain rfl := Option.some.inj h
                            exact ⟨_, rfl, (by exact ROk.refl _), (by repeat' (first | exact PureC.val _ | refine PureC.tup ?_ | refine PureC.agg ?_ | exact pure_nil | refine pure_cons ?_ ?_))⟩
                          · have hc32d := decide_eq_true hc32
                            first | rw [if_pos hc32] at h | rw [if_pos hc32d] at h | simp only [hc32d, Bool.not_true, Bool.not_false, Bool.false_eq_true, if_true, if_false] at h
                            obtain ⟨r8, hr33, h⟩ := Option.bind_eq_some_iff.1 h
                            unfold law35_BalancePlaces_J1 at h
                            simp (config := { maxSteps := 4000000 }) only [go_sem, Nat.reduceLT, Nat.reduceEqDiff, Nat.reduceAdd, Nat.reduceBEq, Nat.reduceMul, Nat.reduceSub, reduceIte, Nat.reduceLeDiff, reduceCtorEq, Int.reduceNeg, Int.reduceToNat, Int.reduceEq, Int.reduceNe, Int.reduceLT, Int.reduceLE, hr1, hc2, hr3, hc4d, hr5, hi8', hi14', hi20', hr24, hc25d, hr26, hc27d, hr29, hc30d, hr31, hc32d, hr33]
                            refine W_cond_dec rfl (fun hc34 => ?_) (fun hc34 => ?_)
                            · have hc34d := decide_eq_true hc34
                              first | rw [if_pos hc34] at h | rw [if_pos hc34d] at h | simp only [hc34d, Bool.not_true, Bool.not_false, Bool.false_eq_true, if_true, if_false] at h
                              simp (config := { maxSteps := 4000000 }) only [go_sem, Nat.reduceLT, Nat.reduceEqDiff, Nat.reduceAdd, Nat.reduceBEq, Nat.reduceMul, Nat.reduceSub, reduceIte, Nat.reduceLeDiff, reduceCtorEq, Int.reduceNeg, Int.reduceToNat, Int.reduceEq, Int.reduceNe, Int.reduceLT, Int.reduceLE, hr1, hc2, hr3, hc4d, hr5, hi8', hi14', hi20', hr24, hc25d, hr26, hc27d, hr29, hc30d, hr31, hc32d, hr33, hc34d, FinW_ret]
                              obtain rfl := Option.some.inj h
                              exact ⟨_, rfl, (by exact ROk.refl _), (by repeat' (first | exact PureC.val _ | refine PureC.tup ?_ | refine PureC.agg ?_ | exact pure_nil | refine pure_cons ?_ ?_))⟩
                            · have hc34d := decide_eq_false hc34
                              first | rw [if_neg hc34] at h | rw [if_neg (ne_true_of_eq_false hc34d)] at h | simp only [hc34d, Bool.not_true, Bool.not_false, Bool.false_eq_true, if_true, if_false] at h
                              unfold law35_BalancePlaces_J3 at h
                              obtain ⟨r9, hr35, h⟩ := Option.bind_eq_some_iff.1 h
                              obtain rfl := Option.some.inj (hr33.symm.trans hr35)
                              simp (config := { maxSteps := 4000000 }) only [go_sem, Nat.reduceLT, Nat.reduceEqDiff, Nat.reduceAdd, Nat.reduceBEq, Nat.reduceMul, Nat.reduceSub, reduceIte, Nat.reduceLeDiff, reduceCtorEq, Int.reduceNeg, Int.reduceToNat, Int.reduceEq, Int.reduceNe, Int.reduceLT, Int.reduceLE, hr1, hc2, hr3, hc4d, hr5, hi8', hi14', hi20', hr24, hc25d, hr26, hc27d, hr29, hc30d, hr31, hc32d, hr33, hc34d]
                              refine RX_guard_dec rfl (fun hc36 => ?_) (fun hc36 => ?_)
                              · have hc36d := decide_eq_true hc36
                                first | rw [if_pos hc36] at h | rw [if_pos hc36d] at h | simp only [hc36d, Bool.not_true, Bool.not_false, Bool.false_eq_true, if_true, if_false] at h
                                obtain ⟨r10, hr37, h⟩ := Option.bind_eq_some_iff.1 h
                                obtain rfl := Option.some.inj (hr33.symm.trans hr37)
                                unfold law35_BalancePlaces_J2 at h
                                simp (config := { maxSteps := 4000000 }) only [go_sem, Nat.reduceLT, Nat.reduceEqDiff, Nat.reduceAdd, Nat.reduceBEq, Nat.reduceMul, Nat.reduceSub, reduceIte, Nat.reduceLeDiff, reduceCtorEq, Int.reduceNeg, Int.reduceToNat, Int.reduceEq, Int.reduceNe, Int.reduceLT, Int.reduceLE, hr1, hc2, hr3, hc4d, hr5, hi8', hi14', hi20', hr24, hc25d, hr26, hc27d, hr29, hc30d, hr31, hc32d, hr33, hc34d, hc36d]
                                refine W_cond_dec rfl (fun hc38 => ?_) (fun hc38 => ?_)
                                · have hc38d := decide_eq_true hc38
                                  first | rw [if_pos hc38] at h | rw [if_pos hc38d] at h | simp only [hc38d, Bool.not_true, Bool.not_false, Bool.false_eq_true, if_true, if_false] at h
                                  simp (config := { maxSteps := 4000000 }) only [go_sem, Nat.reduceLT, Nat.reduceEqDiff, Nat.reduceAdd, Nat.reduceBEq, Nat.reduceMul, Nat.reduceSub, reduceIte, Nat.reduceLeDiff, reduceCtorEq, Int.reduceNeg, Int.reduceToNat, Int.reduceEq, Int.reduceNe, Int.reduceLT, Int.reduceLE, hr1, hc2, hr3, hc4d, hr5, hi8', hi14', hi20', hr24, hc25d, hr26, hc27d, hr29, hc30d, hr31, hc32d, hr33, hc34d, hc36d, hc38d, FinW_ret]
                                  obtain rfl := Option.some.inj h
                                  exact ⟨_, rfl, (by exact ROk.refl _), (by repeat' (first | exact PureC.val _ | refine PureC.tup ?_ | refine PureC.agg ?_ | exact pure_nil | refine pure_cons ?_ ?_))⟩
                                · have hc38d := decide_eq_false hc38
                                  first | rw [if_neg hc38] at h | rw [if_neg (ne_true_of_eq_false hc38d)] at h | simp only [hc38d, Bool.not_true, Bool.not_false, Bool.false_eq_true, if_true, if_false] at h
                                  simp (config := { maxSteps := 4000000 }) only [go_sem, Nat.reduceLT, Nat.reduceEqDiff, Nat.reduceAdd, Nat.reduceBEq, Nat.reduceMul, Nat.reduceSub, reduceIte, Nat.reduceLeDiff, reduceCtorEq, Int.reduceNeg, Int.reduceToNat, Int.reduceEq, Int.reduceNe, Int.reduceLT, Int.reduceLE, hr1, hc2, hr3, hc4d, hr5, hi8', hi14', hi20', hr24, hc25d, hr26, hc27d, hr29, hc30d, hr31, hc32d, hr33, hc34d, hc36d, hc38d]
                                  refine ⟨_, Nat.lt_succ_self _, (r5.1, (if 1 > r8 then 1 else r8), IntKind.i64.wrap (v37 + 1)), ?_, h⟩
                                  refine weak_roots ?_ ?_
                                  · (repeat' (first | exact weakX_nil | refine weakX_cons ?_ ?_)) <;> (first | rfl | simp only [go_sem, Nat.reduceLT, Nat.reduceEqDiff, Nat.reduceAdd, Nat.reduceBEq, Nat.reduceMul, Nat.reduceSub, reduceIte, Nat.reduceLeDiff, reduceCtorEq, Int.reduceNeg, Int.reduceToNat, Int.reduceEq, Int.reduceNe, Int.reduceLT, Int.reduceLE, Bool.or_self, List.length_set, Int.natCast_zero, Int.cast_ofNat_Int, hr1, hc2, hr3, hc4d, hr5, hi8', hi14', hi20', hr24, hc25d, hr26, hc27d, hr29, hc30d, hr31, hc32d, hr33, hc34d, hc36d, hc38d])
                                  · (repeat' (first | exact weakR_nil | refine weakR_cons ?_ ?_ ?_)) <;> (first | rfl | simp only [go_sem, Nat.reduceLT, Nat.reduceEqDiff, Nat.reduceAdd, Nat.reduceBEq, Nat.reduceMul, Nat.reduceSub, reduceIte, Nat.reduceLeDiff, reduceCtorEq, Int.reduceNeg, Int.reduceToNat, Int.reduceEq, Int.reduceNe, Int.reduceLT, Int.reduceLE, Bool.or_self, List.length_set, Int.natCast_zero, Int.cast_ofNat_Int, hr1, hc2, hr3, hc4d, hr5, hi8', hi14', hi20', hr24, hc25d, hr26, hc27d, hr29, hc30d, hr31, hc32d, hr33, hc34d, hc36d, hc38d])
                              · have hc36d := decide_eq_false hc36
                                first | rw [if_neg hc36] at h | rw [if_neg (ne_true_of_eq_false hc36d)] at h | simp only [hc36d, Bool.not_true, Bool.not_false, Bool.false_eq_true, if_true, if_false] at h
                                unfold law35_BalancePlaces_J2 at h
                                simp (config := { maxSteps := 4000000 }) only [go_sem, Nat.reduceLT, Nat.reduceEqDiff, Nat.reduceAdd, Nat.reduceBEq, Nat.reduceMul, Nat.reduceSub, reduceIte, Nat.reduceLeDiff, reduceCtorEq, Int.reduceNeg, Int.reduceToNat, Int.reduceEq, Int.reduceNe, Int.reduceLT, Int.reduceLE, hr1, hc2, hr3, hc4d, hr5, hi8', hi14', hi20', hr24, hc25d, hr26, hc27d, hr29, hc30d, hr31, hc32d, hr33, hc34d, hc36d]
                                refine W_cond_f rfl ?_
                                first | rw [if_pos (rfl : true = true)] at h | rw [if_neg Bool.false_ne_true] at h | skip
                                simp (config := { maxSteps := 4000000 }) only [go_sem, Nat.reduceLT, Nat.reduceEqDiff, Nat.reduceAdd, Nat.reduceBEq, Nat.reduceMul, Nat.reduceSub, reduceIte, Nat.reduceLeDiff, reduceCtorEq, Int.reduceNeg, Int.reduceToNat, Int.reduceEq, Int.reduceNe, Int.reduceLT, Int.reduceLE, hr1, hc2, hr3, hc4d, hr5, hi8', hi14', hi20', hr24, hc25d, hr26, hc27d, hr29, hc30d, hr31, hc32d, hr33, hc34d, hc36d]
                                refine ⟨_, Nat.lt_succ_self _, (r5.1, (if 1 > r8 then 1 else r8), IntKind.i64.wrap (v37 + 1)), ?_, h⟩
                                refine weak_roots ?_ ?_
                                · (repeat' (first | exact weakX_nil | refine weakX_cons ?_ ?_)) <;> (first | rfl | simp only [go_sem, Nat.reduceLT, Nat.reduceEqDiff, Nat.reduceAdd, Nat.reduceBEq, Nat.reduceMul, Nat.reduceSub, reduceIte, Nat.reduceLeDiff, reduceCtorEq, Int.reduceNeg, Int.reduceToNat, Int.reduceEq, Int.reduceNe, Int.reduceLT, Int.reduceLE, Bool.or_self, List.length_set, Int.natCast_zero, Int.cast_ofNat_Int, hr1, hc2, hr3, hc4d, hr5, hi8', hi14', hi20', hr24, hc25d, hr26, hc27d, hr29, hc30d, hr31, hc32d, hr33, hc34d, hc36d])
                                · (repeat' (first | exact weakR_nil | refine weakR_cons ?_ ?_ ?_)) <;> (first | rfl | simp only [go_sem, Nat.reduceLT, Nat.reduceEqDiff, Nat.reduceAdd, Nat.reduceBEq, Nat.reduceMul, Nat.reduceSub, reduceIte, Nat.reduceLeDiff, reduceCtorEq, Int.reduceNeg, Int.reduceToNat, Int.reduceEq, Int.reduceNe, Int.reduceLT, Int.reduceLE, Bool.or_self, List.length_set, Int.natCast_zero, Int.cast_ofNat_Int, hr1, hc2, hr3, hc4d, hr5, hi8', hi14', hi20', hr24, hc25d, hr26, hc27d, hr29, hc30d, hr31, hc32d, hr33, hc34d, hc36d])
                    · have hc25d := decide_eq_false hc25
                      first | rw [if_neg hc25] at h | rw [if_neg (ne_true_of_eq_false hc25d)] at h | simp only [hc25d, Bool.not_true, Bool.not_false, Bool.false_eq_true, if_true, if_false] at h
                      simp (config := { maxSteps := 4000000 }) only [go_sem, Nat.reduceLT, Nat.reduceEqDiff, Nat.reduceAdd, Nat.reduceBEq, Nat.reduceMul, Nat.reduceSub, reduceIte, Nat.reduceLeDiff, reduceCtorEq, Int.reduceNeg, Int.reduceToNat, Int.reduceEq, Int.reduceNe, Int.reduceLT, Int.reduceLE, hr1, hc2, hr3, hc4d, hr5, hi8', hi14', hi20', hr24, hc25d, FinW_ret]
                      obtain rfl := Option.some.inj h
                      exact ⟨_, rfl, (by exact ROk.refl _), (by repeat' (first | exact PureC.val _ | refine PureC.tup ?_ | refine PureC.agg ?_ | exact pure_nil | refine pure_cons ?_ ?_))⟩
def fs_law35_BalancePlaces (N : Nat) : FnS := { own := [], pure := true, fn := fun cs => match cs with
  | [c0, c1] => ((decL 1 (dec1 (decI .u16))) c0).bind fun qc0 => ((decI .u16) c1).bind fun qc1 => (law35_BalancePlaces N qc0 qc1).map fun r => .val (.bool r)
  | _ => none }
theorem fs_law35_BalancePlaces_own (N : Nat) : (fs_law35_BalancePlaces N).own = [] := rfl
theorem fs_law35_BalancePlaces_pure (N : Nat) : (fs_law35_BalancePlaces N).pure = true := rfl
attribute [go_sem] fs_law35_BalancePlaces fs_law35_BalancePlaces_own fs_law35_BalancePlaces_pure
theorem fs_law35_BalancePlaces_ok (N : Nat) : FSOk Try.prog 6 (fs_law35_BalancePlaces N) := by
  refine ⟨fun cs r h => ?_, fun h => by cases h⟩
  simp only [fs_law35_BalancePlaces] at h
  split at h
  · simp only [Option.bind_eq_some_iff, Option.map_eq_some_iff] at h
    obtain ⟨q0, h0, q1, h1, r', hr, rfl⟩ := h
    exact ((w_law35_BalancePlaces N q0 q1 r' hr).args (LeL.cons (decL_le (decI1_le .u16) h0) (LeL.cons (decI_le h1) (LeL.nil))))
  · cases h

end Go.Proofs.Ytpbloecedgddlaa
end
