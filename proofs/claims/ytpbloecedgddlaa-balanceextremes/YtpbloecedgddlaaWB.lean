/- Each Go function computes its model: proofs laid by a program of ours. -/
import Derived.Test.YtpbloecedgddlaaB
import Derived.Test.YtpbloecedgddlaaWA
section
set_option linter.unusedSimpArgs false
set_option linter.unusedVariables false
set_option maxRecDepth 100000
namespace Go.Proofs.Ytpbloecedgddlaa
open Go Go.Proofs Go.Abs
noncomputable def E_law35_BalanceExtremes (N : Nat) : Env := { T := tiOf Try.prog, G := fun d f => if d = 7 ∧ f = 8 then some (fs_law35_awake N) else if d = 10 ∧ f = 29 then some (fs_law35_loads N) else if d = 15 ∧ f = 16 then some (fs_balance_Least N) else if d = 19 ∧ f = 18 then some (fs_balance_Most N) else if d = 24 ∧ f = 20 then some (fs_balance_Spread N) else if d = 64 ∧ f = 16 then some (fs_balance_Least N) else if d = 70 ∧ f = 18 then some (fs_balance_Most N) else if d = 77 ∧ f = 20 then some (fs_balance_Spread N) else none }
theorem E_law35_BalanceExtremes_T (N : Nat) : (E_law35_BalanceExtremes N).T = tiOf Try.prog := rfl
theorem E_law35_BalanceExtremes_G0 (N : Nat) : (E_law35_BalanceExtremes N).G 7 8 = some (fs_law35_awake N) := rfl
theorem E_law35_BalanceExtremes_G1 (N : Nat) : (E_law35_BalanceExtremes N).G 10 29 = some (fs_law35_loads N) := rfl
theorem E_law35_BalanceExtremes_G2 (N : Nat) : (E_law35_BalanceExtremes N).G 15 16 = some (fs_balance_Least N) := rfl
theorem E_law35_BalanceExtremes_G3 (N : Nat) : (E_law35_BalanceExtremes N).G 19 18 = some (fs_balance_Most N) := rfl
theorem E_law35_BalanceExtremes_G4 (N : Nat) : (E_law35_BalanceExtremes N).G 24 20 = some (fs_balance_Spread N) := rfl
theorem E_law35_BalanceExtremes_G5 (N : Nat) : (E_law35_BalanceExtremes N).G 64 16 = some (fs_balance_Least N) := rfl
theorem E_law35_BalanceExtremes_G6 (N : Nat) : (E_law35_BalanceExtremes N).G 70 18 = some (fs_balance_Most N) := rfl
theorem E_law35_BalanceExtremes_G7 (N : Nat) : (E_law35_BalanceExtremes N).G 77 20 = some (fs_balance_Spread N) := rfl
theorem E_law35_BalanceExtremes_ok (N : Nat) : GOk Try.prog { T := tiOf Try.prog, G := (E_law35_BalanceExtremes N).G } := by
  intro d f fs hfs
  simp only [E_law35_BalanceExtremes] at hfs
  by_cases hc : d = 7 ∧ f = 8
  · rw [if_pos hc] at hfs; obtain ⟨rfl, rfl⟩ := hc; obtain rfl := Option.some.inj hfs; exact fs_law35_awake_ok N
  rw [if_neg hc] at hfs
  by_cases hc : d = 10 ∧ f = 29
  · rw [if_pos hc] at hfs; obtain ⟨rfl, rfl⟩ := hc; obtain rfl := Option.some.inj hfs; exact fs_law35_loads_ok N
  rw [if_neg hc] at hfs
  by_cases hc : d = 15 ∧ f = 16
  · rw [if_pos hc] at hfs; obtain ⟨rfl, rfl⟩ := hc; obtain rfl := Option.some.inj hfs; exact fs_balance_Least_ok N
  rw [if_neg hc] at hfs
  by_cases hc : d = 19 ∧ f = 18
  · rw [if_pos hc] at hfs; obtain ⟨rfl, rfl⟩ := hc; obtain rfl := Option.some.inj hfs; exact fs_balance_Most_ok N
  rw [if_neg hc] at hfs
  by_cases hc : d = 24 ∧ f = 20
  · rw [if_pos hc] at hfs; obtain ⟨rfl, rfl⟩ := hc; obtain rfl := Option.some.inj hfs; exact fs_balance_Spread_ok N
  rw [if_neg hc] at hfs
  by_cases hc : d = 64 ∧ f = 16
  · rw [if_pos hc] at hfs; obtain ⟨rfl, rfl⟩ := hc; obtain rfl := Option.some.inj hfs; exact fs_balance_Least_ok N
  rw [if_neg hc] at hfs
  by_cases hc : d = 70 ∧ f = 18
  · rw [if_pos hc] at hfs; obtain ⟨rfl, rfl⟩ := hc; obtain rfl := Option.some.inj hfs; exact fs_balance_Most_ok N
  rw [if_neg hc] at hfs
  by_cases hc : d = 77 ∧ f = 20
  · rw [if_pos hc] at hfs; obtain ⟨rfl, rfl⟩ := hc; obtain rfl := Option.some.inj hfs; exact fs_balance_Spread_ok N
  rw [if_neg hc] at hfs
  cases hfs
theorem fo_law35_BalanceExtremes : FunOk Try.prog 7 Try.f7 Try.f7.body.get! := ⟨Try.func7, rfl, by decide, by kernel_rfl⟩
attribute [go_sem] E_law35_BalanceExtremes_T E_law35_BalanceExtremes_G0 E_law35_BalanceExtremes_G1 E_law35_BalanceExtremes_G2 E_law35_BalanceExtremes_G3 E_law35_BalanceExtremes_G4 E_law35_BalanceExtremes_G5 E_law35_BalanceExtremes_G6 E_law35_BalanceExtremes_G7
set_option maxHeartbeats 4000000 in
theorem w_law35_BalanceExtremes (N : Nat) (a0 : (List Int)) (r : Bool) (h : law35_BalanceExtremes N a0 = some r) : Con Try.prog 7 [] true [.sl false none 1 none (a0.map (rowI .u16))] (.val (.bool r)) := by
  refine fun_ok2 (E := E_law35_BalanceExtremes N) (tiOf_ok Try.prog _) (E_law35_BalanceExtremes_ok N) mix fo_law35_BalanceExtremes (Nat.le_of_ble_eq_true rfl) ?_
  intro _
  rw [entry_tab (by simp)]
  rw [show entryF [] [.sl false none 1 none (a0.map (rowI .u16))] = (updT deadT 0 (.sl false none 1 none (a0.map (rowI .u16)))) from by funext t; match t with | 0 => rfl | t + 1 => rfl]
  apply W_start
  simp only [Try.f7, Option.get!, R0_RZ]
  unfold law35_BalanceExtremes at h
  obtain ⟨r1, hr1, h⟩ := Option.bind_eq_some_iff.1 h
  simp (config := { maxSteps := 4000000 }) only [go_sem, Nat.reduceLT, Nat.reduceEqDiff, Nat.reduceAdd, Nat.reduceBEq, Nat.reduceMul, Nat.reduceSub, reduceIte, Nat.reduceLeDiff, reduceCtorEq, Int.reduceNeg, Int.reduceToNat, Int.reduceEq, Int.reduceNe, Int.reduceLT, Int.reduceLE, hr1]
  repeat' ((with_reducible refine and_bar ?_ ?_); kernel_rfl)
  refine W_cond_nbool rfl (fun hc2 => ?_) (fun hc2 => ?_)
  · first | rw [if_neg (ne_true_of_eq_false hc2)] at h | simp only [hc2, Bool.or_false, Bool.or_true, Bool.false_or, Bool.true_or, Bool.and_true, Bool.true_and, Bool.and_false, Bool.false_and, Bool.not_true, Bool.not_false, Bool.false_eq_true, if_true, if_false] at h
    simp (config := { maxSteps := 4000000 }) only [go_sem, Nat.reduceLT, Nat.reduceEqDiff, Nat.reduceAdd, Nat.reduceBEq, Nat.reduceMul, Nat.reduceSub, reduceIte, Nat.reduceLeDiff, reduceCtorEq, Int.reduceNeg, Int.reduceToNat, Int.reduceEq, Int.reduceNe, Int.reduceLT, Int.reduceLE, hr1, hc2, FinW_ret]
    repeat' ((with_reducible refine and_bar ?_ ?_); kernel_rfl)
    obtain rfl := Option.some.inj h
    exact ⟨_, rfl, (by exact ROk.refl _), (by repeat' (first | exact PureC.val _ | refine PureC.tup ?_ | refine PureC.agg ?_ | exact pure_nil | refine pure_cons ?_ ?_))⟩
  · first | rw [if_pos hc2] at h | simp only [hc2, Bool.or_false, Bool.or_true, Bool.false_or, Bool.true_or, Bool.and_true, Bool.true_and, Bool.and_false, Bool.false_and, Bool.not_true, Bool.not_false, Bool.false_eq_true, if_true, if_false] at h
    obtain ⟨r2, hr3, h⟩ := Option.bind_eq_some_iff.1 h
    simp (config := { maxSteps := 4000000 }) only [go_sem, Nat.reduceLT, Nat.reduceEqDiff, Nat.reduceAdd, Nat.reduceBEq, Nat.reduceMul, Nat.reduceSub, reduceIte, Nat.reduceLeDiff, reduceCtorEq, Int.reduceNeg, Int.reduceToNat, Int.reduceEq, Int.reduceNe, Int.reduceLT, Int.reduceLE, hr1, hc2, hr3]
    repeat' ((with_reducible refine and_bar ?_ ?_); kernel_rfl)
    refine W_cond_dec rfl (fun hc4 => ?_) (fun hc4 => ?_)
    · have hc4d := decide_eq_true hc4
      first | rw [if_pos hc4] at h | rw [if_pos hc4d] at h | simp only [hc4d, Bool.not_true, Bool.not_false, Bool.false_eq_true, if_true, if_false] at h
      obtain ⟨r3, hr5, h⟩ := Option.bind_eq_some_iff.1 h
      simp (config := { maxSteps := 4000000 }) only [go_sem, Nat.reduceLT, Nat.reduceEqDiff, Nat.reduceAdd, Nat.reduceBEq, Nat.reduceMul, Nat.reduceSub, reduceIte, Nat.reduceLeDiff, reduceCtorEq, Int.reduceNeg, Int.reduceToNat, Int.reduceEq, Int.reduceNe, Int.reduceLT, Int.reduceLE, hr1, hc2, hr3, hc4d, hr5]
      repeat' ((with_reducible refine and_bar ?_ ?_); kernel_rfl)
      refine RX_guard_dec rfl (fun hc6 => ?_) (fun hc6 => ?_)
      · have hc6d := decide_eq_true hc6
        first | rw [if_pos hc6] at h | rw [if_pos hc6d] at h | simp only [hc6d, Bool.not_true, Bool.not_false, Bool.false_eq_true, if_true, if_false] at h
        obtain ⟨r4, hr7, h⟩ := Option.bind_eq_some_iff.1 h
        simp (config := { maxSteps := 4000000 }) only [go_sem, Nat.reduceLT, Nat.reduceEqDiff, Nat.reduceAdd, Nat.reduceBEq, Nat.reduceMul, Nat.reduceSub, reduceIte, Nat.reduceLeDiff, reduceCtorEq, Int.reduceNeg, Int.reduceToNat, Int.reduceEq, Int.reduceNe, Int.reduceLT, Int.reduceLE, hr1, hc2, hr3, hc4d, hr5, hc6d, hr7]
        repeat' ((with_reducible refine and_bar ?_ ?_); kernel_rfl)
        refine RX_guard_dec rfl (fun hc8 => ?_) (fun hc8 => ?_)
        · have hc8d := decide_eq_true hc8
          first | rw [if_pos hc8] at h | rw [if_pos hc8d] at h | simp only [hc8d, Bool.not_true, Bool.not_false, Bool.false_eq_true, if_true, if_false] at h
          obtain ⟨r5, hr9, h⟩ := Option.bind_eq_some_iff.1 h
          simp (config := { maxSteps := 4000000 }) only [go_sem, Nat.reduceLT, Nat.reduceEqDiff, Nat.reduceAdd, Nat.reduceBEq, Nat.reduceMul, Nat.reduceSub, reduceIte, Nat.reduceLeDiff, reduceCtorEq, Int.reduceNeg, Int.reduceToNat, Int.reduceEq, Int.reduceNe, Int.reduceLT, Int.reduceLE, hr1, hc2, hr3, hc4d, hr5, hc6d, hr7, hc8d, hr9, FinW_ret]
          repeat' ((with_reducible refine and_bar ?_ ?_); kernel_rfl)
          obtain rfl := Option.some.inj h
          exact ⟨_, rfl, (by exact ROk.refl _), (by repeat' (first | exact PureC.val _ | refine PureC.tup ?_ | refine PureC.agg ?_ | exact pure_nil | refine pure_cons ?_ ?_))⟩
        · have hc8d := decide_eq_false hc8
          first | rw [if_neg hc8] at h | rw [if_neg (ne_true_of_eq_false hc8d)] at h | simp only [hc8d, Bool.not_true, Bool.not_false, Bool.false_eq_true, if_true, if_false] at h
          simp (config := { maxSteps := 4000000 }) only [go_sem, Nat.reduceLT, Nat.reduceEqDiff, Nat.reduceAdd, Nat.reduceBEq, Nat.reduceMul, Nat.reduceSub, reduceIte, Nat.reduceLeDiff, reduceCtorEq, Int.reduceNeg, Int.reduceToNat, Int.reduceEq, Int.reduceNe, Int.reduceLT, Int.reduceLE, hr1, hc2, hr3, hc4d, hr5, hc6d, hr7, hc8d, FinW_ret]
          repeat' ((with_reducible refine and_bar ?_ ?_); kernel_rfl)
          obtain rfl := Option.some.inj h
          exact ⟨_, rfl, (by exact ROk.refl _), (by repeat' (first | exact PureC.val _ | refine PureC.tup ?_ | refine PureC.agg ?_ | exact pure_nil | refine pure_cons ?_ ?_))⟩
      · have hc6d := decide_eq_false hc6
        first | rw [if_neg hc6] at h | rw [if_neg (ne_true_of_eq_false hc6d)] at h | simp only [hc6d, Bool.not_true, Bool.not_false, Bool.false_eq_true, if_true, if_false] at h
        simp (config := { maxSteps := 4000000 }) only [go_sem, Nat.reduceLT, Nat.reduceEqDiff, Nat.reduceAdd, Nat.reduceBEq, Nat.reduceMul, Nat.reduceSub, reduceIte, Nat.reduceLeDiff, reduceCtorEq, Int.reduceNeg, Int.reduceToNat, Int.reduceEq, Int.reduceNe, Int.reduceLT, Int.reduceLE, hr1, hc2, hr3, hc4d, hr5, hc6d, FinW_ret]
        repeat' ((with_reducible refine and_bar ?_ ?_); kernel_rfl)
        obtain rfl := Option.some.inj h
        exact ⟨_, rfl, (by exact ROk.refl _), (by repeat' (first | exact PureC.val _ | refine PureC.tup ?_ | refine PureC.agg ?_ | exact pure_nil | refine pure_cons ?_ ?_))⟩
    · have hc4d := decide_eq_false hc4
      first | rw [if_neg hc4] at h | rw [if_neg (ne_true_of_eq_false hc4d)] at h | simp only [hc4d, Bool.not_true, Bool.not_false, Bool.false_eq_true, if_true, if_false] at h
      obtain ⟨x6, hb10, hx11, h⟩ := gx_some h
      try simp only [Int.toNat_natCast, Int.reduceToNat, Int.toNat_zero] at hx11
      try simp only [Int.ofNat_lt, Int.natCast_nonneg, true_and] at hb10
      simp (config := { maxSteps := 4000000 }) only [go_sem, Nat.reduceLT, Nat.reduceEqDiff, Nat.reduceAdd, Nat.reduceBEq, Nat.reduceMul, Nat.reduceSub, reduceIte, Nat.reduceLeDiff, reduceCtorEq, Int.reduceNeg, Int.reduceToNat, Int.reduceEq, Int.reduceNe, Int.reduceLT, Int.reduceLE, hr1, hc2, hr3, hc4d, hb10, hx11]
      repeat' ((with_reducible refine and_bar ?_ ?_); kernel_rfl)
      refine W_real fun hreal13 => ?_
      have hl12 := hreal13.lenT 3 (by decide) (by simp only [go_sem, Nat.reduceLT, Nat.reduceEqDiff, Nat.reduceAdd, Nat.reduceBEq, Nat.reduceMul, Nat.reduceSub, reduceIte, Nat.reduceLeDiff, reduceCtorEq, Int.reduceNeg, Int.reduceToNat, Int.reduceEq, Int.reduceNe, Int.reduceLT, Int.reduceLE, Bool.or_self, List.length_set, Int.natCast_zero, Int.cast_ofNat_Int, hr1, hc2, hr3, hc4d, hb10, hx11]; rfl)
      rw [List.length_map] at hl12
      refine W_count (fun (v16 : Nat) (b : Int × Int × Int × Int) => ⟨tab 85 (updT (updT (updT (updT deadT 3 (.sl false none 2 none (r2.map Load.row))) 4 (.pref 4 [] 0 0)) 5 (.pref 5 [] 0 0)) 6 (.val (.int .i64 ((v16 : Nat) : Int)))), (upd (upd RZ 4 (.sl true none 2 (some 1) [[.val (.int .i64 b.1), .val (.int .i64 b.2.1)]])) 5 (.sl true none 2 (some 1) [[.val (.int .i64 b.2.2.1), .val (.int .i64 b.2.2.2)]]))⟩) (x6.Member, x6.Actors, x6.Member, x6.Actors) h ?_ ?_
      · refine weak_roots ?_ ?_
        · (repeat' (first | exact weakX_nil | refine weakX_cons ?_ ?_)) <;> (first | rfl | simp only [go_sem, Nat.reduceLT, Nat.reduceEqDiff, Nat.reduceAdd, Nat.reduceBEq, Nat.reduceMul, Nat.reduceSub, reduceIte, Nat.reduceLeDiff, reduceCtorEq, Int.reduceNeg, Int.reduceToNat, Int.reduceEq, Int.reduceNe, Int.reduceLT, Int.reduceLE, Bool.or_self, List.length_set, Int.natCast_zero, Int.cast_ofNat_Int, hr1, hc2, hr3, hc4d, hb10, hx11])
        · (repeat' (first | exact weakR_nil | refine weakR_cons ?_ ?_ ?_)) <;> (first | rfl | simp only [go_sem, Nat.reduceLT, Nat.reduceEqDiff, Nat.reduceAdd, Nat.reduceBEq, Nat.reduceMul, Nat.reduceSub, reduceIte, Nat.reduceLeDiff, reduceCtorEq, Int.reduceNeg, Int.reduceToNat, Int.reduceEq, Int.reduceNe, Int.reduceLT, Int.reduceLE, Bool.or_self, List.length_set, Int.natCast_zero, Int.cast_ofNat_Int, hr1, hc2, hr3, hc4d, hb10, hx11])
      · rintro v16 ⟨v12, v13, v14, v15⟩ _ h -
        rcases count_cases r2.length v16 with ⟨hi14', hd17⟩ | ⟨hi14', hd17⟩
        · rw [hd17] at h
          simp only [law35_BalanceExtremes_L1] at h
          have hw16 := wrap_succ hi14' hl12
          simp (config := { maxSteps := 4000000 }) only [go_sem, Nat.reduceLT, Nat.reduceEqDiff, Nat.reduceAdd, Nat.reduceBEq, Nat.reduceMul, Nat.reduceSub, reduceIte, Nat.reduceLeDiff, reduceCtorEq, Int.reduceNeg, Int.reduceToNat, Int.reduceEq, Int.reduceNe, Int.reduceLT, Int.reduceLE, hr1, hc2, hr3, hc4d, hb10, hx11, hi14', hw16]
          repeat' ((with_reducible refine and_bar ?_ ?_); kernel_rfl)
          refine W_cond_t rfl ?_
          obtain ⟨x7, hb18, hx19, h⟩ := gx_some h
          try simp only [Int.toNat_natCast, Int.reduceToNat, Int.toNat_zero] at hx19
          try simp only [Int.ofNat_lt, Int.natCast_nonneg, true_and] at hb18
          simp (config := { maxSteps := 4000000 }) only [go_sem, Nat.reduceLT, Nat.reduceEqDiff, Nat.reduceAdd, Nat.reduceBEq, Nat.reduceMul, Nat.reduceSub, reduceIte, Nat.reduceLeDiff, reduceCtorEq, Int.reduceNeg, Int.reduceToNat, Int.reduceEq, Int.reduceNe, Int.reduceLT, Int.reduceLE, hr1, hc2, hr3, hc4d, hb10, hx11, hi14', hw16, hb18, hx19]
          repeat' ((with_reducible refine and_bar ?_ ?_); kernel_rfl)
          refine W_cond_dec rfl (fun hc20 => ?_) (fun hc20 => ?_)
          · have hc20d := decide_eq_true hc20
            first | rw [if_pos hc20] at h | rw [if_pos hc20d] at h | simp only [hc20d, Bool.not_true, Bool.not_false, Bool.false_eq_true, if_true, if_false] at h
            unfold law35_BalanceExtremes_J1 at h
            obtain ⟨x8, hb21, hx22, h⟩ := gx_some h
            try simp only [Int.toNat_natCast, Int.reduceToNat, Int.toNat_zero] at hx22
            try simp only [Int.ofNat_lt, Int.natCast_nonneg, true_and] at hb21
            obtain rfl := get_same hx19 hx22
            simp (config := { maxSteps := 4000000 }) only [go_sem, Nat.reduceLT, Nat.reduceEqDiff, Nat.reduceAdd, Nat.reduceBEq, Nat.reduceMul, Nat.reduceSub, reduceIte, Nat.reduceLeDiff, reduceCtorEq, Int.reduceNeg, Int.reduceToNat, Int.reduceEq, Int.reduceNe, Int.reduceLT, Int.reduceLE, hr1, hc2, hr3, hc4d, hb10, hx11, hi14', hw16, hb18, hx19, hc20d, hb21]
            repeat' ((with_reducible refine and_bar ?_ ?_); kernel_rfl)
            refine W_cond_dec rfl (fun hc23 => ?_) (fun hc23 => ?_)
            · have hc23d := decide_eq_true hc23
              first | rw [if_pos hc23] at h | rw [if_pos hc23d] at h | simp only [hc23d, Bool.not_true, Bool.not_false, Bool.false_eq_true, if_true, if_false] at h
              simp (config := { maxSteps := 4000000 }) only [go_sem, Nat.reduceLT, Nat.reduceEqDiff, Nat.reduceAdd, Nat.reduceBEq, Nat.reduceMul, Nat.reduceSub, reduceIte, Nat.reduceLeDiff, reduceCtorEq, Int.reduceNeg, Int.reduceToNat, Int.reduceEq, Int.reduceNe, Int.reduceLT, Int.reduceLE, hr1, hc2, hr3, hc4d, hb10, hx11, hi14', hw16, hb18, hx19, hc20d, hb21, hc23d]
              repeat' ((with_reducible refine and_bar ?_ ?_); kernel_rfl)
              first | refine ⟨(x7.Member, x7.Actors, x7.Member, x7.Actors), ?_, h⟩ | refine ⟨hi14', (x7.Member, x7.Actors, x7.Member, x7.Actors), ?_, h⟩
              refine weak_roots ?_ ?_
              · (repeat' (first | exact weakX_nil | refine weakX_cons ?_ ?_)) <;> (first | rfl | simp only [go_sem, Nat.reduceLT, Nat.reduceEqDiff, Nat.reduceAdd, Nat.reduceBEq, Nat.reduceMul, Nat.reduceSub, reduceIte, Nat.reduceLeDiff, reduceCtorEq, Int.reduceNeg, Int.reduceToNat, Int.reduceEq, Int.reduceNe, Int.reduceLT, Int.reduceLE, Bool.or_self, List.length_set, Int.natCast_zero, Int.cast_ofNat_Int, hr1, hc2, hr3, hc4d, hb10, hx11, hi14', hw16, hb18, hx19, hc20d, hb21, hc23d])
              · (repeat' (first | exact weakR_nil | refine weakR_cons ?_ ?_ ?_)) <;> (first | rfl | simp only [go_sem, Nat.reduceLT, Nat.reduceEqDiff, Nat.reduceAdd, Nat.reduceBEq, Nat.reduceMul, Nat.reduceSub, reduceIte, Nat.reduceLeDiff, reduceCtorEq, Int.reduceNeg, Int.reduceToNat, Int.reduceEq, Int.reduceNe, Int.reduceLT, Int.reduceLE, Bool.or_self, List.length_set, Int.natCast_zero, Int.cast_ofNat_Int, hr1, hc2, hr3, hc4d, hb10, hx11, hi14', hw16, hb18, hx19, hc20d, hb21, hc23d])
            · have hc23d := decide_eq_false hc23
              first | rw [if_neg hc23] at h | rw [if_neg (ne_true_of_eq_false hc23d)] at h | simp only [hc23d, Bool.not_true, Bool.not_false, Bool.false_eq_true, if_true, if_false] at h
              simp (config := { maxSteps := 4000000 }) only [go_sem, Nat.reduceLT, Nat.reduceEqDiff, Nat.reduceAdd, Nat.reduceBEq, Nat.reduceMul, Nat.reduceSub, reduceIte, Nat.reduceLeDiff, reduceCtorEq, Int.reduceNeg, Int.reduceToNat, Int.reduceEq, Int.reduceNe, Int.reduceLT, Int.reduceLE, hr1, hc2, hr3, hc4d, hb10, hx11, hi14', hw16, hb18, hx19, hc20d, hb21, hc23d]
              repeat' ((with_reducible refine and_bar ?_ ?_); kernel_rfl)
              first | refine ⟨(x7.Member, x7.Actors, v14, v15), ?_, h⟩ | refine ⟨hi14', (x7.Member, x7.Actors, v14, v15), ?_, h⟩
              refine weak_roots ?_ ?_
              · (repeat' (first | exact weakX_nil | refine weakX_cons ?_ ?_)) <;> (first | rfl | simp only [go_sem, Nat.reduceLT, Nat.reduceEqDiff, Nat.reduceAdd, Nat.reduceBEq, Nat.reduceMul, Nat.reduceSub, reduceIte, Nat.reduceLeDiff, reduceCtorEq, Int.reduceNeg, Int.reduceToNat, Int.reduceEq, Int.reduceNe, Int.reduceLT, Int.reduceLE, Bool.or_self, List.length_set, Int.natCast_zero, Int.cast_ofNat_Int, hr1, hc2, hr3, hc4d, hb10, hx11, hi14', hw16, hb18, hx19, hc20d, hb21, hc23d])
              · (repeat' (first | exact weakR_nil | refine weakR_cons ?_ ?_ ?_)) <;> (first | rfl | simp only [go_sem, Nat.reduceLT, Nat.reduceEqDiff, Nat.reduceAdd, Nat.reduceBEq, Nat.reduceMul, Nat.reduceSub, reduceIte, Nat.reduceLeDiff, reduceCtorEq, Int.reduceNeg, Int.reduceToNat, Int.reduceEq, Int.reduceNe, Int.reduceLT, Int.reduceLE, Bool.or_self, List.length_set, Int.natCast_zero, Int.cast_ofNat_Int, hr1, hc2, hr3, hc4d, hb10, hx11, hi14', hw16, hb18, hx19, hc20d, hb21, hc23d])
          · have hc20d := decide_eq_false hc20
            first | rw [if_neg hc20] at h | rw [if_neg (ne_true_of_eq_false hc20d)] at h | simp only [hc20d, Bool.not_true, Bool.not_false, Bool.false_eq_true, if_true, if_false] at h
            unfold law35_BalanceExtremes_J1 at h
            obtain ⟨x9, hb24, hx25, h⟩ := gx_some h
            try simp only [Int.toNat_natCast, Int.reduceToNat, Int.toNat_zero] at hx25
            try simp only [Int.ofNat_lt, Int.natCast_nonneg, true_and] at hb24
            obtain rfl := get_same hx19 hx25
            simp (config := { maxSteps := 4000000 }) only [go_sem, Nat.reduceLT, Nat.reduceEqDiff, Nat.reduceAdd, Nat.reduceBEq, Nat.reduceMul, Nat.reduceSub, reduceIte, Nat.reduceLeDiff, reduceCtorEq, Int.reduceNeg, Int.reduceToNat, Int.reduceEq, Int.reduceNe, Int.reduceLT, Int.reduceLE, hr1, hc2, hr3, hc4d, hb10, hx11, hi14', hw16, hb18, hx19, hc20d, hb24]
            repeat' ((with_reducible refine and_bar ?_ ?_); kernel_rfl)
            refine W_cond_dec rfl (fun hc26 => ?_) (fun hc26 => ?_)
            · have hc26d := decide_eq_true hc26
              first | rw [if_pos hc26] at h | rw [if_pos hc26d] at h | simp only [hc26d, Bool.not_true, Bool.not_false, Bool.false_eq_true, if_true, if_false] at h
              simp (config := { maxSteps := 4000000 }) only [go_sem, Nat.reduceLT, Nat.reduceEqDiff, Nat.reduceAdd, Nat.reduceBEq, Nat.reduceMul, Nat.reduceSub, reduceIte, Nat.reduceLeDiff, reduceCtorEq, Int.reduceNeg, Int.reduceToNat, Int.reduceEq, Int.reduceNe, Int.reduceLT, Int.reduceLE, hr1, hc2, hr3, hc4d, hb10, hx11, hi14', hw16, hb18, hx19, hc20d, hb24, hc26d]
              repeat' ((with_reducible refine and_bar ?_ ?_); kernel_rfl)
              first | refine ⟨(v12, v13, x7.Member, x7.Actors), ?_, h⟩ | refine ⟨hi14', (v12, v13, x7.Member, x7.Actors), ?_, h⟩
              refine weak_roots ?_ ?_
              · (repeat' (first | exact weakX_nil | refine weakX_cons ?_ ?_)) <;> (first | rfl | simp only [go_sem, Nat.reduceLT, Nat.reduceEqDiff, Nat.reduceAdd, Nat.reduceBEq, Nat.reduceMul, Nat.reduceSub, reduceIte, Nat.reduceLeDiff, reduceCtorEq, Int.reduceNeg, Int.reduceToNat, Int.reduceEq, Int.reduceNe, Int.reduceLT, Int.reduceLE, Bool.or_self, List.length_set, Int.natCast_zero, Int.cast_ofNat_Int, hr1, hc2, hr3, hc4d, hb10, hx11, hi14', hw16, hb18, hx19, hc20d, hb24, hc26d])
              · (repeat' (first | exact weakR_nil | refine weakR_cons ?_ ?_ ?_)) <;> (first | rfl | simp only [go_sem, Nat.reduceLT, Nat.reduceEqDiff, Nat.reduceAdd, Nat.reduceBEq, Nat.reduceMul, Nat.reduceSub, reduceIte, Nat.reduceLeDiff, reduceCtorEq, Int.reduceNeg, Int.reduceToNat, Int.reduceEq, Int.reduceNe, Int.reduceLT, Int.reduceLE, Bool.or_self, List.length_set, Int.natCast_zero, Int.cast_ofNat_Int, hr1, hc2, hr3, hc4d, hb10, hx11, hi14', hw16, hb18, hx19, hc20d, hb24, hc26d])
            · have hc26d := decide_eq_false hc26
              first | rw [if_neg hc26] at h | rw [if_neg (ne_true_of_eq_false hc26d)] at h | simp only [hc26d, Bool.not_true, Bool.not_false, Bool.false_eq_true, if_true, if_false] at h
              simp (config := { maxSteps := 4000000 }) only [go_sem, Nat.reduceLT, Nat.reduceEqDiff, Nat.reduceAdd, Nat.reduceBEq, Nat.reduceMul, Nat.reduceSub, reduceIte, Nat.reduceLeDiff, reduceCtorEq, Int.reduceNeg, Int.reduceToNat, Int.reduceEq, Int.reduceNe, Int.reduceLT, Int.reduceLE, hr1, hc2, hr3, hc4d, hb10, hx11, hi14', hw16, hb18, hx19, hc20d, hb24, hc26d]
              repeat' ((with_reducible refine and_bar ?_ ?_); kernel_rfl)
              first | refine ⟨(v12, v13, v14, v15), ?_, h⟩ | refine ⟨hi14', (v12, v13, v14, v15), ?_, h⟩
              refine weak_roots ?_ ?_
              · (repeat' (first | exact weakX_nil | refine weakX_cons ?_ ?_)) <;> (first | rfl | simp only [go_sem, Nat.reduceLT, Nat.reduceEqDiff, Nat.reduceAdd, Nat.reduceBEq, Nat.reduceMul, Nat.reduceSub, reduceIte, Nat.reduceLeDiff, reduceCtorEq, Int.reduceNeg, Int.reduceToNat, Int.reduceEq, Int.reduceNe, Int.reduceLT, Int.reduceLE, Bool.or_self, List.length_set, Int.natCast_zero, Int.cast_ofNat_Int, hr1, hc2, hr3, hc4d, hb10, hx11, hi14', hw16, hb18, hx19, hc20d, hb24, hc26d])
              · (repeat' (first | exact weakR_nil | refine weakR_cons ?_ ?_ ?_)) <;> (first | rfl | simp only [go_sem, Nat.reduceLT, Nat.reduceEqDiff, Nat.reduceAdd, Nat.reduceBEq, Nat.reduceMul, Nat.reduceSub, reduceIte, Nat.reduceLeDiff, reduceCtorEq, Int.reduceNeg, Int.reduceToNat, Int.reduceEq, Int.reduceNe, Int.reduceLT, Int.reduceLE, Bool.or_self, List.length_set, Int.natCast_zero, Int.cast_ofNat_Int, hr1, hc2, hr3, hc4d, hb10, hx11, hi14', hw16, hb18, hx19, hc20d, hb24, hc26d])
        · rw [hd17] at h
          simp only [law35_BalanceExtremes_L1] at h
          simp (config := { maxSteps := 4000000 }) only [go_sem, Nat.reduceLT, Nat.reduceEqDiff, Nat.reduceAdd, Nat.reduceBEq, Nat.reduceMul, Nat.reduceSub, reduceIte, Nat.reduceLeDiff, reduceCtorEq, Int.reduceNeg, Int.reduceToNat, Int.reduceEq, Int.reduceNe, Int.reduceLT, Int.reduceLE, hr1, hc2, hr3, hc4d, hb10, hx11, hi14']
          repeat' ((with_reducible refine and_bar ?_ ?_); kernel_rfl)
          refine W_cond_f rfl ?_
          unfold law35_BalanceExtremes_J2 at h
          obtain ⟨r10, hr27, h⟩ := Option.bind_eq_some_iff.1 h
          simp (config := { maxSteps := 4000000 }) only [go_sem, Nat.reduceLT, Nat.reduceEqDiff, Nat.reduceAdd, Nat.reduceBEq, Nat.reduceMul, Nat.reduceSub, reduceIte, Nat.reduceLeDiff, reduceCtorEq, Int.reduceNeg, Int.reduceToNat, Int.reduceEq, Int.reduceNe, Int.reduceLT, Int.reduceLE, hr1, hc2, hr3, hc4d, hb10, hx11, hi14', hr27]
          repeat' ((with_reducible refine and_bar ?_ ?_); kernel_rfl)
          refine RX_guard_dec rfl (fun hc28 => ?_) (fun hc28 => ?_)
          · have hc28d := decide_eq_true hc28
            first | rw [if_pos hc28] at h | rw [if_pos hc28d] at h | simp only [hc28d, Bool.not_true, Bool.not_false, Bool.false_eq_true, if_true, if_false] at h
            obtain ⟨r11, hr29, h⟩ := Option.bind_eq_some_iff.1 h
            simp (config := { maxSteps := 4000000 }) only [go_sem, Nat.reduceLT, Nat.reduceEqDiff, Nat.reduceAdd, Nat.reduceBEq, Nat.reduceMul, Nat.reduceSub, reduceIte, Nat.reduceLeDiff, reduceCtorEq, Int.reduceNeg, Int.reduceToNat, Int.reduceEq, Int.reduceNe, Int.reduceLT, Int.reduceLE, hr1, hc2, hr3, hc4d, hb10, hx11, hi14', hr27, hc28d, hr29]
            repeat' ((with_reducible refine and_bar ?_ ?_); kernel_rfl)
            refine RX_guard_dec rfl (fun hc30 => ?_) (fun hc30 => ?_)
            · have hc30d := decide_eq_true hc30
              first | rw [if_pos hc30] at h | rw [if_pos hc30d] at h | simp only [hc30d, Bool.not_true, Bool.not_false, Bool.false_eq_true, if_true, if_false] at h
              obtain ⟨r12, hr31, h⟩ := Option.bind_eq_some_iff.1 h
              simp (config := { maxSteps := 4000000 }) only [go_sem, Nat.reduceLT, Nat.reduceEqDiff, Nat.reduceAdd, Nat.reduceBEq, Nat.reduceMul, Nat.reduceSub, reduceIte, Nat.reduceLeDiff, reduceCtorEq, Int.reduceNeg, Int.reduceToNat, Int.reduceEq, Int.reduceNe, Int.reduceLT, Int.reduceLE, hr1, hc2, hr3, hc4d, hb10, hx11, hi14', hr27, hc28d, hr29, hc30d, hr31, FinW_ret]
              repeat' ((with_reducible refine and_bar ?_ ?_); kernel_rfl)
              obtain rfl := Option.some.inj h
              exact ⟨_, rfl, (by exact ROk.refl _), (by repeat' (first | exact PureC.val _ | refine PureC.tup ?_ | refine PureC.agg ?_ | exact pure_nil | refine pure_cons ?_ ?_))⟩
            · have hc30d := decide_eq_false hc30
              first | rw [if_neg hc30] at h | rw [if_neg (ne_true_of_eq_false hc30d)] at h | simp only [hc30d, Bool.not_true, Bool.not_false, Bool.false_eq_true, if_true, if_false] at h
              simp (config := { maxSteps := 4000000 }) only [go_sem, Nat.reduceLT, Nat.reduceEqDiff, Nat.reduceAdd, Nat.reduceBEq, Nat.reduceMul, Nat.reduceSub, reduceIte, Nat.reduceLeDiff, reduceCtorEq, Int.reduceNeg, Int.reduceToNat, Int.reduceEq, Int.reduceNe, Int.reduceLT, Int.reduceLE, hr1, hc2, hr3, hc4d, hb10, hx11, hi14', hr27, hc28d, hr29, hc30d, FinW_ret]
              repeat' ((with_reducible refine and_bar ?_ ?_); kernel_rfl)
              obtain rfl := Option.some.inj h
              exact ⟨_, rfl, (by exact ROk.refl _), (by repeat' (first | exact PureC.val _ | refine PureC.tup ?_ | refine PureC.agg ?_ | exact pure_nil | refine pure_cons ?_ ?_))⟩
          · have hc28d := decide_eq_false hc28
            first | rw [if_neg hc28] at h | rw [if_neg (ne_true_of_eq_false hc28d)] at h | simp only [hc28d, Bool.not_true, Bool.not_false, Bool.false_eq_true, if_true, if_false] at h
            simp (config := { maxSteps := 4000000 }) only [go_sem, Nat.reduceLT, Nat.reduceEqDiff, Nat.reduceAdd, Nat.reduceBEq, Nat.reduceMul, Nat.reduceSub, reduceIte, Nat.reduceLeDiff, reduceCtorEq, Int.reduceNeg, Int.reduceToNat, Int.reduceEq, Int.reduceNe, Int.reduceLT, Int.reduceLE, hr1, hc2, hr3, hc4d, hb10, hx11, hi14', hr27, hc28d, FinW_ret]
            repeat' ((with_reducible refine and_bar ?_ ?_); kernel_rfl)
            obtain rfl := Option.some.inj h
            exact ⟨_, rfl, (by exact ROk.refl _), (by repeat' (first | exact PureC.val _ | refine PureC.tup ?_ | refine PureC.agg ?_ | exact pure_nil | refine pure_cons ?_ ?_))⟩
def fs_law35_BalanceExtremes (N : Nat) : FnS := { own := [], pure := true, fn := fun cs => match cs with
  | [c0] => ((decL 1 (dec1 (decI .u16))) c0).bind fun qc0 => (law35_BalanceExtremes N qc0).map fun r => .val (.bool r)
  | _ => none }
theorem fs_law35_BalanceExtremes_own (N : Nat) : (fs_law35_BalanceExtremes N).own = [] := rfl
theorem fs_law35_BalanceExtremes_pure (N : Nat) : (fs_law35_BalanceExtremes N).pure = true := rfl
attribute [go_sem] fs_law35_BalanceExtremes fs_law35_BalanceExtremes_own fs_law35_BalanceExtremes_pure
theorem fs_law35_BalanceExtremes_ok (N : Nat) : FSOk Try.prog 7 (fs_law35_BalanceExtremes N) := by
  refine ⟨fun cs r h => ?_, fun h => by cases h⟩
  simp only [fs_law35_BalanceExtremes] at h
  split at h
  · simp only [Option.bind_eq_some_iff, Option.map_eq_some_iff] at h
    obtain ⟨q0, h0, r', hr, rfl⟩ := h
    exact ((w_law35_BalanceExtremes N q0 r' hr).args (LeL.cons (decL_le (decI1_le .u16) h0) (LeL.nil)))
  · cases h

end Go.Proofs.Ytpbloecedgddlaa
end
