/- Each Go function computes its model: proofs laid by a program of ours. -/
import Derived.Test.YtpbloecedgddlaaB
import Derived.Test.YtpbloecedgddlaaWA
section
set_option linter.unusedSimpArgs false
set_option linter.unusedVariables false
set_option maxRecDepth 100000
namespace Go.Proofs.Ytpbloecedgddlaa
open Go Go.Proofs Go.Abs
noncomputable def E_ref35_Valid (N : Nat) : Env := { T := tiOf Try.prog, G := fun d f => if d = 34 ∧ f = 36 then some (fs_ref3_ValidMembers N) else none }
theorem E_ref35_Valid_T (N : Nat) : (E_ref35_Valid N).T = tiOf Try.prog := rfl
theorem E_ref35_Valid_G0 (N : Nat) : (E_ref35_Valid N).G 34 36 = some (fs_ref3_ValidMembers N) := rfl
theorem E_ref35_Valid_ok (N : Nat) : GOk Try.prog { T := tiOf Try.prog, G := (E_ref35_Valid N).G } := by
  intro d f fs hfs
  simp only [E_ref35_Valid] at hfs
  by_cases hc : d = 34 ∧ f = 36
  · rw [if_pos hc] at hfs; obtain ⟨rfl, rfl⟩ := hc; obtain rfl := Option.some.inj hfs; exact fs_ref3_ValidMembers_ok N
  rw [if_neg hc] at hfs
  cases hfs
theorem fo_ref35_Valid : FunOk Try.prog 15 Try.f15 Try.f15.body.get! := ⟨Try.func15, rfl, by decide, by kernel_rfl⟩
attribute [go_sem] E_ref35_Valid_T E_ref35_Valid_G0
set_option maxHeartbeats 4000000 in
theorem w_ref35_Valid (N : Nat) (a0 : (List Load)) (r : Bool) (h : ref35_Valid N a0 = some r) : Con Try.prog 15 [] true [.sl false none 2 none (a0.map Load.row)] (.val (.bool r)) := by
  refine fun_ok2 (E := E_ref35_Valid N) (tiOf_ok Try.prog _) (E_ref35_Valid_ok N) mix fo_ref35_Valid (Nat.le_of_ble_eq_true rfl) ?_
  intro _
  rw [entry_tab (by simp)]
  rw [show entryF [] [.sl false none 2 none (a0.map Load.row)] = (updT deadT 0 (.sl false none 2 none (a0.map Load.row))) from by funext t; match t with | 0 => rfl | t + 1 => rfl]
  apply W_start
  simp only [Try.f15, Option.get!, R0_RZ]
  unfold ref35_Valid at h
  simp (config := { maxSteps := 4000000 }) only [go_sem, Nat.reduceLT, Nat.reduceEqDiff, Nat.reduceAdd, Nat.reduceBEq, Nat.reduceMul, Nat.reduceSub, reduceIte, Nat.reduceLeDiff, reduceCtorEq, Int.reduceNeg, Int.reduceToNat, Int.reduceEq, Int.reduceNe, Int.reduceLT, Int.reduceLE]
  refine W_real fun hreal2 => ?_
  have hl1 := hreal2.lenT 0 (by decide) (by simp only [go_sem, Nat.reduceLT, Nat.reduceEqDiff, Nat.reduceAdd, Nat.reduceBEq, Nat.reduceMul, Nat.reduceSub, reduceIte, Nat.reduceLeDiff, reduceCtorEq, Int.reduceNeg, Int.reduceToNat, Int.reduceEq, Int.reduceNe, Int.reduceLT, Int.reduceLE, Bool.or_self, List.length_set, Int.natCast_zero, Int.cast_ofNat_Int]; rfl)
  rw [List.length_map] at hl1
  refine W_range (fun (v3 : Nat) (b : List Int) => ⟨tab 35 (updT (updT (updT deadT 0 (.sl false none 2 none (a0.map Load.row))) 3 (.pal 32 [] 0 b.length none)) 4 (.val (.int .i64 ((v3 : Nat) : Int)))), (upd RZ 32 (.sl true none 1 none (b.map (rowI .i64))))⟩) [] h ?_ ?_
  · refine Weak.trans (weak_adopt 3 32 1 (by simp only [go_sem, Nat.reduceLT, Nat.reduceEqDiff, Nat.reduceAdd, Nat.reduceBEq, Nat.reduceMul, Nat.reduceSub, reduceIte, Nat.reduceLeDiff, reduceCtorEq, Int.reduceNeg, Int.reduceToNat, Int.reduceEq, Int.reduceNe, Int.reduceLT, Int.reduceLE, Bool.or_self, List.length_set, Int.natCast_zero, Int.cast_ofNat_Int]) (by simp only [go_sem, Nat.reduceLT, Nat.reduceEqDiff, Nat.reduceAdd, Nat.reduceBEq, Nat.reduceMul, Nat.reduceSub, reduceIte, Nat.reduceLeDiff, reduceCtorEq, Int.reduceNeg, Int.reduceToNat, Int.reduceEq, Int.reduceNe, Int.reduceLT, Int.reduceLE, Bool.or_self, List.length_set, Int.natCast_zero, Int.cast_ofNat_Int])) ?_
    refine weak_roots ?_ ?_
    · (repeat' (first | exact weakX_nil | refine weakX_cons ?_ ?_)) <;> (first | rfl | simp only [go_sem, Nat.reduceLT, Nat.reduceEqDiff, Nat.reduceAdd, Nat.reduceBEq, Nat.reduceMul, Nat.reduceSub, reduceIte, Nat.reduceLeDiff, reduceCtorEq, Int.reduceNeg, Int.reduceToNat, Int.reduceEq, Int.reduceNe, Int.reduceLT, Int.reduceLE, Bool.or_self, List.length_set, Int.natCast_zero, Int.cast_ofNat_Int])
    · (repeat' (first | exact weakR_nil | refine weakR_cons ?_ ?_ ?_)) <;> (first | rfl | simp only [go_sem, Nat.reduceLT, Nat.reduceEqDiff, Nat.reduceAdd, Nat.reduceBEq, Nat.reduceMul, Nat.reduceSub, reduceIte, Nat.reduceLeDiff, reduceCtorEq, Int.reduceNeg, Int.reduceToNat, Int.reduceEq, Int.reduceNe, Int.reduceLT, Int.reduceLE, Bool.or_self, List.length_set, Int.natCast_zero, Int.cast_ofNat_Int])
  · rintro v3 l2 hi3 h -
    rcases drop_cases a0 v3 hi3 with ⟨x6, hi3', hx4, hd6⟩ | ⟨hi3', _, hd6⟩
    · rw [hd6] at h
      simp only [ref35_Valid_L1] at h
      have hw5 := wrap_succ hi3' hl1
      simp (config := { maxSteps := 4000000 }) only [go_sem, Nat.reduceLT, Nat.reduceEqDiff, Nat.reduceAdd, Nat.reduceBEq, Nat.reduceMul, Nat.reduceSub, reduceIte, Nat.reduceLeDiff, reduceCtorEq, Int.reduceNeg, Int.reduceToNat, Int.reduceEq, Int.reduceNe, Int.reduceLT, Int.reduceLE, hx4, hi3', hw5]
      refine W_cond_t rfl ?_
      simp (config := { maxSteps := 4000000 }) only [go_sem, Nat.reduceLT, Nat.reduceEqDiff, Nat.reduceAdd, Nat.reduceBEq, Nat.reduceMul, Nat.reduceSub, reduceIte, Nat.reduceLeDiff, reduceCtorEq, Int.reduceNeg, Int.reduceToNat, Int.reduceEq, Int.reduceNe, Int.reduceLT, Int.reduceLE, hx4, hi3', hw5]
      refine RX_guard_dec rfl (fun hc7 => ?_) (fun hc7 => ?_)
      · have hc7d := decide_eq_true hc7
        first | rw [if_pos hc7] at h | rw [if_pos hc7d] at h | simp only [hc7d, Bool.not_true, Bool.not_false, Bool.false_eq_true, if_true, if_false] at h
        unfold ref35_Valid_J1 at h
        simp (config := { maxSteps := 4000000 }) only [go_sem, Nat.reduceLT, Nat.reduceEqDiff, Nat.reduceAdd, Nat.reduceBEq, Nat.reduceMul, Nat.reduceSub, reduceIte, Nat.reduceLeDiff, reduceCtorEq, Int.reduceNeg, Int.reduceToNat, Int.reduceEq, Int.reduceNe, Int.reduceLT, Int.reduceLE, hx4, hi3', hw5, hc7d]
        refine W_cond_t rfl ?_
        first | rw [if_pos (rfl : true = true)] at h | rw [if_neg Bool.false_ne_true] at h | skip
        simp (config := { maxSteps := 4000000 }) only [go_sem, Nat.reduceLT, Nat.reduceEqDiff, Nat.reduceAdd, Nat.reduceBEq, Nat.reduceMul, Nat.reduceSub, reduceIte, Nat.reduceLeDiff, reduceCtorEq, Int.reduceNeg, Int.reduceToNat, Int.reduceEq, Int.reduceNe, Int.reduceLT, Int.reduceLE, hx4, hi3', hw5, hc7d, FinW_ret]
        obtain rfl := Option.some.inj h
        exact ⟨_, rfl, (by exact ROk.refl _), (by repeat' (first | exact PureC.val _ | refine PureC.tup ?_ | refine PureC.agg ?_ | exact pure_nil | refine pure_cons ?_ ?_))⟩
      · have hc7d := decide_eq_false hc7
        first | rw [if_neg hc7] at h | rw [if_neg (ne_true_of_eq_false hc7d)] at h | simp only [hc7d, Bool.not_true, Bool.not_false, Bool.false_eq_true, if_true, if_false] at h
        unfold ref35_Valid_J1 at h
        simp (config := { maxSteps := 4000000 }) only [go_sem, Nat.reduceLT, Nat.reduceEqDiff, Nat.reduceAdd, Nat.reduceBEq, Nat.reduceMul, Nat.reduceSub, reduceIte, Nat.reduceLeDiff, reduceCtorEq, Int.reduceNeg, Int.reduceToNat, Int.reduceEq, Int.reduceNe, Int.reduceLT, Int.reduceLE, hx4, hi3', hw5, hc7d]
        refine W_cond_dec rfl (fun hc8 => ?_) (fun hc8 => ?_)
        · have hc8d := decide_eq_true hc8
          first | rw [if_pos hc8] at h | rw [if_pos hc8d] at h | simp only [hc8d, Bool.not_true, Bool.not_false, Bool.false_eq_true, if_true, if_false] at h
          simp (config := { maxSteps := 4000000 }) only [go_sem, Nat.reduceLT, Nat.reduceEqDiff, Nat.reduceAdd, Nat.reduceBEq, Nat.reduceMul, Nat.reduceSub, reduceIte, Nat.reduceLeDiff, reduceCtorEq, Int.reduceNeg, Int.reduceToNat, Int.reduceEq, Int.reduceNe, Int.reduceLT, Int.reduceLE, hx4, hi3', hw5, hc7d, hc8d, FinW_ret]
          obtain rfl := Option.some.inj h
          exact ⟨_, rfl, (by exact ROk.refl _), (by repeat' (first | exact PureC.val _ | refine PureC.tup ?_ | refine PureC.agg ?_ | exact pure_nil | refine pure_cons ?_ ?_))⟩
        · have hc8d := decide_eq_false hc8
          first | rw [if_neg hc8] at h | rw [if_neg (ne_true_of_eq_false hc8d)] at h | simp only [hc8d, Bool.not_true, Bool.not_false, Bool.false_eq_true, if_true, if_false] at h
          unfold ref35_Valid_J2 at h
          obtain ⟨ha9, h⟩ := apx_some h
          simp only [List.length_cons, List.length_nil, Nat.zero_add, Nat.add_zero, Nat.reduceAdd] at ha9
          simp (config := { maxSteps := 4000000 }) only [go_sem, Nat.reduceLT, Nat.reduceEqDiff, Nat.reduceAdd, Nat.reduceBEq, Nat.reduceMul, Nat.reduceSub, reduceIte, Nat.reduceLeDiff, reduceCtorEq, Int.reduceNeg, Int.reduceToNat, Int.reduceEq, Int.reduceNe, Int.reduceLT, Int.reduceLE, hx4, hi3', hw5, hc7d, hc8d, ha9]
          first | refine ⟨(l2 ++ [x6.Member]), ?_, h⟩ | refine ⟨hi3', (l2 ++ [x6.Member]), ?_, h⟩
          refine weak_roots ?_ ?_
          · (repeat' (first | exact weakX_nil | refine weakX_cons ?_ ?_)) <;> (first | rfl | simp only [go_sem, Nat.reduceLT, Nat.reduceEqDiff, Nat.reduceAdd, Nat.reduceBEq, Nat.reduceMul, Nat.reduceSub, reduceIte, Nat.reduceLeDiff, reduceCtorEq, Int.reduceNeg, Int.reduceToNat, Int.reduceEq, Int.reduceNe, Int.reduceLT, Int.reduceLE, Bool.or_self, List.length_set, Int.natCast_zero, Int.cast_ofNat_Int, hx4, hi3', hw5, hc7d, hc8d, ha9])
          · (repeat' (first | exact weakR_nil | refine weakR_cons ?_ ?_ ?_)) <;> (first | rfl | simp only [go_sem, Nat.reduceLT, Nat.reduceEqDiff, Nat.reduceAdd, Nat.reduceBEq, Nat.reduceMul, Nat.reduceSub, reduceIte, Nat.reduceLeDiff, reduceCtorEq, Int.reduceNeg, Int.reduceToNat, Int.reduceEq, Int.reduceNe, Int.reduceLT, Int.reduceLE, Bool.or_self, List.length_set, Int.natCast_zero, Int.cast_ofNat_Int, hx4, hi3', hw5, hc7d, hc8d, ha9])
    · rw [hd6] at h
      simp only [ref35_Valid_L1] at h
      simp (config := { maxSteps := 4000000 }) only [go_sem, Nat.reduceLT, Nat.reduceEqDiff, Nat.reduceAdd, Nat.reduceBEq, Nat.reduceMul, Nat.reduceSub, reduceIte, Nat.reduceLeDiff, reduceCtorEq, Int.reduceNeg, Int.reduceToNat, Int.reduceEq, Int.reduceNe, Int.reduceLT, Int.reduceLE, hi3']
      refine W_cond_f rfl ?_
      unfold ref35_Valid_J3 at h
      obtain ⟨r1, hr10, h⟩ := Option.bind_eq_some_iff.1 h
      simp (config := { maxSteps := 4000000 }) only [go_sem, Nat.reduceLT, Nat.reduceEqDiff, Nat.reduceAdd, Nat.reduceBEq, Nat.reduceMul, Nat.reduceSub, reduceIte, Nat.reduceLeDiff, reduceCtorEq, Int.reduceNeg, Int.reduceToNat, Int.reduceEq, Int.reduceNe, Int.reduceLT, Int.reduceLE, hi3', hr10, FinW_ret]
      obtain rfl := Option.some.inj h
      exact ⟨_, rfl, (by exact ROk.refl _), (by repeat' (first | exact PureC.val _ | refine PureC.tup ?_ | refine PureC.agg ?_ | exact pure_nil | refine pure_cons ?_ ?_))⟩
def fs_ref35_Valid (N : Nat) : FnS := { own := [], pure := true, fn := fun cs => match cs with
  | [c0] => ((decL 2 Load.dec) c0).bind fun qc0 => (ref35_Valid N qc0).map fun r => .val (.bool r)
  | _ => none }
theorem fs_ref35_Valid_own (N : Nat) : (fs_ref35_Valid N).own = [] := rfl
theorem fs_ref35_Valid_pure (N : Nat) : (fs_ref35_Valid N).pure = true := rfl
attribute [go_sem] fs_ref35_Valid fs_ref35_Valid_own fs_ref35_Valid_pure
theorem fs_ref35_Valid_ok (N : Nat) : FSOk Try.prog 15 (fs_ref35_Valid N) := by
  refine ⟨fun cs r h => ?_, fun h => by cases h⟩
  simp only [fs_ref35_Valid] at h
  split at h
  · simp only [Option.bind_eq_some_iff, Option.map_eq_some_iff] at h
    obtain ⟨q0, h0, r', hr, rfl⟩ := h
    exact ((w_ref35_Valid N q0 r' hr).args (LeL.cons (decL_le Load.dec_le h0) (LeL.nil)))
  · cases h

end Go.Proofs.Ytpbloecedgddlaa
end

section
set_option linter.unusedSimpArgs false
set_option linter.unusedVariables false
set_option maxRecDepth 100000
namespace Go.Proofs.Ytpbloecedgddlaa
open Go Go.Proofs Go.Abs
noncomputable def E_ref35_least (N : Nat) : Env := { T := tiOf Try.prog, G := fun d f => none }
theorem E_ref35_least_T (N : Nat) : (E_ref35_least N).T = tiOf Try.prog := rfl
theorem E_ref35_least_ok (N : Nat) : GOk Try.prog { T := tiOf Try.prog, G := (E_ref35_least N).G } := by
  intro d f fs hfs
  cases hfs
theorem fo_ref35_least : FunOk Try.prog 32 Try.f32 Try.f32.body.get! := ⟨Try.func32, rfl, by decide, by kernel_rfl⟩
attribute [go_sem] E_ref35_least_T
set_option maxHeartbeats 4000000 in
theorem w_ref35_least (N : Nat) (a0 : (List Load)) (r : Int) (h : ref35_least N a0 = some r) : Con Try.prog 32 [] true [.sl false none 2 none (a0.map Load.row)] (.val (.int .i64 r)) := by
  refine fun_ok2 (E := E_ref35_least N) (tiOf_ok Try.prog _) (E_ref35_least_ok N) mix fo_ref35_least (Nat.le_of_ble_eq_true rfl) ?_
  intro _
  rw [entry_tab (by simp)]
  rw [show entryF [] [.sl false none 2 none (a0.map Load.row)] = (updT deadT 0 (.sl false none 2 none (a0.map Load.row))) from by funext t; match t with | 0 => rfl | t + 1 => rfl]
  apply W_start
  simp only [Try.f32, Option.get!, R0_RZ]
  unfold ref35_least at h
  simp (config := { maxSteps := 4000000 }) only [go_sem, Nat.reduceLT, Nat.reduceEqDiff, Nat.reduceAdd, Nat.reduceBEq, Nat.reduceMul, Nat.reduceSub, reduceIte, Nat.reduceLeDiff, reduceCtorEq, Int.reduceNeg, Int.reduceToNat, Int.reduceEq, Int.reduceNe, Int.reduceLT, Int.reduceLE]
  repeat' ((with_reducible refine and_bar ?_ ?_); kernel_rfl)
  refine W_real fun hreal2 => ?_
  have hl1 := hreal2.lenT 0 (by decide) (by simp only [go_sem, Nat.reduceLT, Nat.reduceEqDiff, Nat.reduceAdd, Nat.reduceBEq, Nat.reduceMul, Nat.reduceSub, reduceIte, Nat.reduceLeDiff, reduceCtorEq, Int.reduceNeg, Int.reduceToNat, Int.reduceEq, Int.reduceNe, Int.reduceLT, Int.reduceLE, Bool.or_self, List.length_set, Int.natCast_zero, Int.cast_ofNat_Int]; rfl)
  rw [List.length_map] at hl1
  refine W_count (fun (v3 : Nat) (b : Int) => ⟨tab 24 (updT (updT (updT deadT 0 (.sl false none 2 none (a0.map Load.row))) 3 (.val (.int .i64 b))) 4 (.val (.int .i64 ((v3 : Nat) : Int)))), RZ⟩) 0 h ?_ ?_
  · refine weak_roots ?_ ?_
    · (repeat' (first | exact weakX_nil | refine weakX_cons ?_ ?_)) <;> (first | rfl | simp only [go_sem, Nat.reduceLT, Nat.reduceEqDiff, Nat.reduceAdd, Nat.reduceBEq, Nat.reduceMul, Nat.reduceSub, reduceIte, Nat.reduceLeDiff, reduceCtorEq, Int.reduceNeg, Int.reduceToNat, Int.reduceEq, Int.reduceNe, Int.reduceLT, Int.reduceLE, Bool.or_self, List.length_set, Int.natCast_zero, Int.cast_ofNat_Int])
    · (repeat' (first | exact weakR_nil | refine weakR_cons ?_ ?_ ?_)) <;> (first | rfl | simp only [go_sem, Nat.reduceLT, Nat.reduceEqDiff, Nat.reduceAdd, Nat.reduceBEq, Nat.reduceMul, Nat.reduceSub, reduceIte, Nat.reduceLeDiff, reduceCtorEq, Int.reduceNeg, Int.reduceToNat, Int.reduceEq, Int.reduceNe, Int.reduceLT, Int.reduceLE, Bool.or_self, List.length_set, Int.natCast_zero, Int.cast_ofNat_Int])
  · rintro v3 v2 _ h -
    rcases count_cases a0.length v3 with ⟨hi3', hd6⟩ | ⟨hi3', hd6⟩
    · rw [hd6] at h
      simp only [ref35_least_L1] at h
      have hw5 := wrap_succ hi3' hl1
      simp (config := { maxSteps := 4000000 }) only [go_sem, Nat.reduceLT, Nat.reduceEqDiff, Nat.reduceAdd, Nat.reduceBEq, Nat.reduceMul, Nat.reduceSub, reduceIte, Nat.reduceLeDiff, reduceCtorEq, Int.reduceNeg, Int.reduceToNat, Int.reduceEq, Int.reduceNe, Int.reduceLT, Int.reduceLE, hi3', hw5]
      repeat' ((with_reducible refine and_bar ?_ ?_); kernel_rfl)
      refine W_cond_t rfl ?_
      obtain ⟨x1, hb7, hx8, h⟩ := gx_some h
      try simp only [Int.toNat_natCast, Int.reduceToNat, Int.toNat_zero] at hx8
      try simp only [Int.ofNat_lt, Int.natCast_nonneg, true_and] at hb7
      obtain ⟨x2, hb9, hx10, h⟩ := gx_some h
      simp (config := { maxSteps := 4000000 }) only [go_sem, Nat.reduceLT, Nat.reduceEqDiff, Nat.reduceAdd, Nat.reduceBEq, Nat.reduceMul, Nat.reduceSub, reduceIte, Nat.reduceLeDiff, reduceCtorEq, Int.reduceNeg, Int.reduceToNat, Int.reduceEq, Int.reduceNe, Int.reduceLT, Int.reduceLE, hi3', hw5, hb7, hx8, hb9, hx10]
      repeat' ((with_reducible refine and_bar ?_ ?_); kernel_rfl)
      refine W_cond_dec rfl (fun hc11 => ?_) (fun hc11 => ?_)
      · have hc11d := decide_eq_true hc11
        first | rw [if_pos hc11] at h | rw [if_pos hc11d] at h | simp only [hc11d, Bool.not_true, Bool.not_false, Bool.false_eq_true, if_true, if_false] at h
        simp (config := { maxSteps := 4000000 }) only [go_sem, Nat.reduceLT, Nat.reduceEqDiff, Nat.reduceAdd, Nat.reduceBEq, Nat.reduceMul, Nat.reduceSub, reduceIte, Nat.reduceLeDiff, reduceCtorEq, Int.reduceNeg, Int.reduceToNat, Int.reduceEq, Int.reduceNe, Int.reduceLT, Int.reduceLE, hi3', hw5, hb7, hx8, hb9, hx10, hc11d]
        repeat' ((with_reducible refine and_bar ?_ ?_); kernel_rfl)
        first | refine ⟨((v3 : Nat) : Int), ?_, h⟩ | refine ⟨hi3', ((v3 : Nat) : Int), ?_, h⟩
        refine weak_roots ?_ ?_
        · (repeat' (first | exact weakX_nil | refine weakX_cons ?_ ?_)) <;> (first | rfl | simp only [go_sem, Nat.reduceLT, Nat.reduceEqDiff, Nat.reduceAdd, Nat.reduceBEq, Nat.reduceMul, Nat.reduceSub, reduceIte, Nat.reduceLeDiff, reduceCtorEq, Int.reduceNeg, Int.reduceToNat, Int.reduceEq, Int.reduceNe, Int.reduceLT, Int.reduceLE, Bool.or_self, List.length_set, Int.natCast_zero, Int.cast_ofNat_Int, hi3', hw5, hb7, hx8, hb9, hx10, hc11d])
        · (repeat' (first | exact weakR_nil | refine weakR_cons ?_ ?_ ?_)) <;> (first | rfl | simp only [go_sem, Nat.reduceLT, Nat.reduceEqDiff, Nat.reduceAdd, Nat.reduceBEq, Nat.reduceMul, Nat.reduceSub, reduceIte, Nat.reduceLeDiff, reduceCtorEq, Int.reduceNeg, Int.reduceToNat, Int.reduceEq, Int.reduceNe, Int.reduceLT, Int.reduceLE, Bool.or_self, List.length_set, Int.natCast_zero, Int.cast_ofNat_Int, hi3', hw5, hb7, hx8, hb9, hx10, hc11d])
      · have hc11d := decide_eq_false hc11
        first | rw [if_neg hc11] at h | rw [if_neg (ne_true_of_eq_false hc11d)] at h | simp only [hc11d, Bool.not_true, Bool.not_false, Bool.false_eq_true, if_true, if_false] at h
        simp (config := { maxSteps := 4000000 }) only [go_sem, Nat.reduceLT, Nat.reduceEqDiff, Nat.reduceAdd, Nat.reduceBEq, Nat.reduceMul, Nat.reduceSub, reduceIte, Nat.reduceLeDiff, reduceCtorEq, Int.reduceNeg, Int.reduceToNat, Int.reduceEq, Int.reduceNe, Int.reduceLT, Int.reduceLE, hi3', hw5, hb7, hx8, hb9, hx10, hc11d]
        repeat' ((with_reducible refine and_bar ?_ ?_); kernel_rfl)
        first | refine ⟨v2, ?_, h⟩ | refine ⟨hi3', v2, ?_, h⟩
        refine weak_roots ?_ ?_
        · (repeat' (first | exact weakX_nil | refine weakX_cons ?_ ?_)) <;> (first | rfl | simp only [go_sem, Nat.reduceLT, Nat.reduceEqDiff, Nat.reduceAdd, Nat.reduceBEq, Nat.reduceMul, Nat.reduceSub, reduceIte, Nat.reduceLeDiff, reduceCtorEq, Int.reduceNeg, Int.reduceToNat, Int.reduceEq, Int.reduceNe, Int.reduceLT, Int.reduceLE, Bool.or_self, List.length_set, Int.natCast_zero, Int.cast_ofNat_Int, hi3', hw5, hb7, hx8, hb9, hx10, hc11d])
        · (repeat' (first | exact weakR_nil | refine weakR_cons ?_ ?_ ?_)) <;> (first | rfl | simp only [go_sem, Nat.reduceLT, Nat.reduceEqDiff, Nat.reduceAdd, Nat.reduceBEq, Nat.reduceMul, Nat.reduceSub, reduceIte, Nat.reduceLeDiff, reduceCtorEq, Int.reduceNeg, Int.reduceToNat, Int.reduceEq, Int.reduceNe, Int.reduceLT, Int.reduceLE, Bool.or_self, List.length_set, Int.natCast_zero, Int.cast_ofNat_Int, hi3', hw5, hb7, hx8, hb9, hx10, hc11d])
    · rw [hd6] at h
      simp only [ref35_least_L1] at h
      simp (config := { maxSteps := 4000000 }) only [go_sem, Nat.reduceLT, Nat.reduceEqDiff, Nat.reduceAdd, Nat.reduceBEq, Nat.reduceMul, Nat.reduceSub, reduceIte, Nat.reduceLeDiff, reduceCtorEq, Int.reduceNeg, Int.reduceToNat, Int.reduceEq, Int.reduceNe, Int.reduceLT, Int.reduceLE, hi3']
      repeat' ((with_reducible refine and_bar ?_ ?_); kernel_rfl)
      refine W_cond_f rfl ?_
      simp (config := { maxSteps := 4000000 }) only [go_sem, Nat.reduceLT, Nat.reduceEqDiff, Nat.reduceAdd, Nat.reduceBEq, Nat.reduceMul, Nat.reduceSub, reduceIte, Nat.reduceLeDiff, reduceCtorEq, Int.reduceNeg, Int.reduceToNat, Int.reduceEq, Int.reduceNe, Int.reduceLT, Int.reduceLE, hi3', FinW_ret]
      repeat' ((with_reducible refine and_bar ?_ ?_); kernel_rfl)
      obtain rfl := Option.some.inj h
      exact ⟨_, rfl, (by exact ROk.refl _), (by repeat' (first | exact PureC.val _ | refine PureC.tup ?_ | refine PureC.agg ?_ | exact pure_nil | refine pure_cons ?_ ?_))⟩
def fs_ref35_least (N : Nat) : FnS := { own := [], pure := true, fn := fun cs => match cs with
  | [c0] => ((decL 2 Load.dec) c0).bind fun qc0 => (ref35_least N qc0).map fun r => .val (.int .i64 r)
  | _ => none }
theorem fs_ref35_least_own (N : Nat) : (fs_ref35_least N).own = [] := rfl
theorem fs_ref35_least_pure (N : Nat) : (fs_ref35_least N).pure = true := rfl
attribute [go_sem] fs_ref35_least fs_ref35_least_own fs_ref35_least_pure
theorem fs_ref35_least_ok (N : Nat) : FSOk Try.prog 32 (fs_ref35_least N) := by
  refine ⟨fun cs r h => ?_, fun h => by cases h⟩
  simp only [fs_ref35_least] at h
  split at h
  · simp only [Option.bind_eq_some_iff, Option.map_eq_some_iff] at h
    obtain ⟨q0, h0, r', hr, rfl⟩ := h
    exact ((w_ref35_least N q0 r' hr).args (LeL.cons (decL_le Load.dec_le h0) (LeL.nil)))
  · cases h

end Go.Proofs.Ytpbloecedgddlaa
end

section
set_option linter.unusedSimpArgs false
set_option linter.unusedVariables false
set_option maxRecDepth 100000
namespace Go.Proofs.Ytpbloecedgddlaa
open Go Go.Proofs Go.Abs
noncomputable def E_ref35_Place (N : Nat) : Env := { T := tiOf Try.prog, G := fun d f => if d = 8 ∧ f = 15 then some (fs_ref35_Valid N) else if d = 11 ∧ f = 32 then some (fs_ref35_least N) else none }
theorem E_ref35_Place_T (N : Nat) : (E_ref35_Place N).T = tiOf Try.prog := rfl
theorem E_ref35_Place_G0 (N : Nat) : (E_ref35_Place N).G 8 15 = some (fs_ref35_Valid N) := rfl
theorem E_ref35_Place_G1 (N : Nat) : (E_ref35_Place N).G 11 32 = some (fs_ref35_least N) := rfl
theorem E_ref35_Place_ok (N : Nat) : GOk Try.prog { T := tiOf Try.prog, G := (E_ref35_Place N).G } := by
  intro d f fs hfs
  simp only [E_ref35_Place] at hfs
  by_cases hc : d = 8 ∧ f = 15
  · rw [if_pos hc] at hfs; obtain ⟨rfl, rfl⟩ := hc; obtain rfl := Option.some.inj hfs; exact fs_ref35_Valid_ok N
  rw [if_neg hc] at hfs
  by_cases hc : d = 11 ∧ f = 32
  · rw [if_pos hc] at hfs; obtain ⟨rfl, rfl⟩ := hc; obtain rfl := Option.some.inj hfs; exact fs_ref35_least_ok N
  rw [if_neg hc] at hfs
  cases hfs
theorem fo_ref35_Place : FunOk Try.prog 10 Try.f10 Try.f10.body.get! := ⟨Try.func10, rfl, by decide, by kernel_rfl⟩
attribute [go_sem] E_ref35_Place_T E_ref35_Place_G0 E_ref35_Place_G1
set_option maxHeartbeats 4000000 in
theorem w_ref35_Place (N : Nat) (a0 : (List Load)) (r : (List Load) × Int × Int) (h : ref35_Place N a0 = some r) : Con Try.prog 10 [] true [.sl false none 2 none (a0.map Load.row)] (.tup [.sl true none 2 none (r.1.map Load.row), .val (.int .i64 r.2.1), .val (.int .i64 r.2.2)]) := by
  refine fun_ok2 (E := E_ref35_Place N) (tiOf_ok Try.prog _) (E_ref35_Place_ok N) mix fo_ref35_Place (Nat.le_of_ble_eq_true rfl) ?_
  intro _
  rw [entry_tab (by simp)]
  rw [show entryF [] [.sl false none 2 none (a0.map Load.row)] = (updT deadT 0 (.sl false none 2 none (a0.map Load.row))) from by funext t; match t with | 0 => rfl | t + 1 => rfl]
  apply W_start
  simp only [Try.f10, Option.get!, R0_RZ]
  unfold ref35_Place at h
  obtain ⟨r1, hr1, h⟩ := Option.bind_eq_some_iff.1 h
  simp (config := { maxSteps := 4000000 }) only [go_sem, Nat.reduceLT, Nat.reduceEqDiff, Nat.reduceAdd, Nat.reduceBEq, Nat.reduceMul, Nat.reduceSub, reduceIte, Nat.reduceLeDiff, reduceCtorEq, Int.reduceNeg, Int.reduceToNat, Int.reduceEq, Int.reduceNe, Int.reduceLT, Int.reduceLE, hr1]
  repeat' ((with_reducible refine and_bar ?_ ?_); kernel_rfl)
  refine W_cond_nbool rfl (fun hc2 => ?_) (fun hc2 => ?_)
  · first | rw [if_neg (ne_true_of_eq_false hc2)] at h | simp only [hc2, Bool.not_true, Bool.not_false, Bool.false_eq_true, if_true, if_false] at h
    simp (config := { maxSteps := 4000000 }) only [go_sem, Nat.reduceLT, Nat.reduceEqDiff, Nat.reduceAdd, Nat.reduceBEq, Nat.reduceMul, Nat.reduceSub, reduceIte, Nat.reduceLeDiff, reduceCtorEq, Int.reduceNeg, Int.reduceToNat, Int.reduceEq, Int.reduceNe, Int.reduceLT, Int.reduceLE, hr1, hc2, FinW_ret]
    repeat' ((with_reducible refine and_bar ?_ ?_); kernel_rfl)
    obtain rfl := Option.some.inj h
    exact ⟨_, rfl, (by repeat' (first | exact ROk.refl _ | exact ROk.nil _ | ((refine ROk.of _ ?_ ?_); (focus ((repeat' (first | exact Le.refl _ | exact LeL.nil | exact Le.nils | exact LeLL.refl _ | refine LeLL.mapAppend ?_ ?_ | refine LeLL.cons ?_ ?_ | refine Le.sl ?_ | refine Le.tup ?_ | refine Le.agg ?_ | refine LeL.cons ?_ ?_)); done)); (focus ((repeat' (first | exact NoOwn.val _ | exact NoOwn.sl _ _ _ _ | refine NoOwn.tup ?_ | refine NoOwn.agg ?_ | exact noOwn_nil | refine noOwn_cons ?_ ?_)); done))) | ((refine ROk.own ?_ ?_); (focus ((repeat' (first | exact Le.refl _ | exact LeL.nil | exact Le.nils | exact LeLL.refl _ | refine LeLL.mapAppend ?_ ?_ | refine LeLL.cons ?_ ?_ | refine Le.sl ?_ | refine Le.tup ?_ | refine Le.agg ?_ | refine LeL.cons ?_ ?_)); done)); (focus ((first | exact RowOk.noOwn Load.row_ok _); done))) | refine ROk.agg rfl ?_ | refine ROk.tup rfl ?_ | exact rok_nil | refine rok_cons ?_ ?_)), (by (repeat' (first | exact PureC.val _ | refine PureC.tup ?_ | refine PureC.agg ?_ | exact pure_nil | refine pure_cons ?_ ?_ | refine PureC.sl ?_ | exact pure_rows Load.row_pure _ |  exact pure_rows_nil | refine pure_rows_append ?_ ?_ | refine pure_rows_cons ?_ ?_)))⟩
  · first | rw [if_pos hc2] at h | simp only [hc2, Bool.not_true, Bool.not_false, Bool.false_eq_true, if_true, if_false] at h
    obtain ⟨r2, hr3, h⟩ := Option.bind_eq_some_iff.1 h
    obtain ⟨x3, hb4, hx5, h⟩ := gx_some h
    simp (config := { maxSteps := 4000000 }) only [go_sem, Nat.reduceLT, Nat.reduceEqDiff, Nat.reduceAdd, Nat.reduceBEq, Nat.reduceMul, Nat.reduceSub, reduceIte, Nat.reduceLeDiff, reduceCtorEq, Int.reduceNeg, Int.reduceToNat, Int.reduceEq, Int.reduceNe, Int.reduceLT, Int.reduceLE, hr1, hc2, hr3, hb4, hx5]
    repeat' ((with_reducible refine and_bar ?_ ?_); kernel_rfl)
    refine W_cond_dec rfl (fun hc6 => ?_) (fun hc6 => ?_)
    · have hc6d := decide_eq_true hc6
      first | rw [if_pos hc6] at h | rw [if_pos hc6d] at h | simp only [hc6d, Bool.not_true, Bool.not_false, Bool.false_eq_true, if_true, if_false] at h
      simp (config := { maxSteps := 4000000 }) only [go_sem, Nat.reduceLT, Nat.reduceEqDiff, Nat.reduceAdd, Nat.reduceBEq, Nat.reduceMul, Nat.reduceSub, reduceIte, Nat.reduceLeDiff, reduceCtorEq, Int.reduceNeg, Int.reduceToNat, Int.reduceEq, Int.reduceNe, Int.reduceLT, Int.reduceLE, hr1, hc2, hr3, hb4, hx5, hc6d, FinW_ret]
      repeat' ((with_reducible refine and_bar ?_ ?_); kernel_rfl)
      obtain rfl := Option.some.inj h
      exact ⟨_, rfl, (by repeat' (first | exact ROk.refl _ | exact ROk.nil _ | ((refine ROk.of _ ?_ ?_); (focus ((repeat' (first | exact Le.refl _ | exact LeL.nil | exact Le.nils | exact LeLL.refl _ | refine LeLL.mapAppend ?_ ?_ | refine LeLL.cons ?_ ?_ | refine Le.sl ?_ | refine Le.tup ?_ | refine Le.agg ?_ | refine LeL.cons ?_ ?_)); done)); (focus ((repeat' (first | exact NoOwn.val _ | exact NoOwn.sl _ _ _ _ | refine NoOwn.tup ?_ | refine NoOwn.agg ?_ | exact noOwn_nil | refine noOwn_cons ?_ ?_)); done))) | ((refine ROk.own ?_ ?_); (focus ((repeat' (first | exact Le.refl _ | exact LeL.nil | exact Le.nils | exact LeLL.refl _ | refine LeLL.mapAppend ?_ ?_ | refine LeLL.cons ?_ ?_ | refine Le.sl ?_ | refine Le.tup ?_ | refine Le.agg ?_ | refine LeL.cons ?_ ?_)); done)); (focus ((first | exact RowOk.noOwn Load.row_ok _); done))) | refine ROk.agg rfl ?_ | refine ROk.tup rfl ?_ | exact rok_nil | refine rok_cons ?_ ?_)), (by (repeat' (first | exact PureC.val _ | refine PureC.tup ?_ | refine PureC.agg ?_ | exact pure_nil | refine pure_cons ?_ ?_ | refine PureC.sl ?_ | exact pure_rows Load.row_pure _ |  exact pure_rows_nil | refine pure_rows_append ?_ ?_ | refine pure_rows_cons ?_ ?_)))⟩
    · have hc6d := decide_eq_false hc6
      first | rw [if_neg hc6] at h | rw [if_neg (ne_true_of_eq_false hc6d)] at h | simp only [hc6d, Bool.not_true, Bool.not_false, Bool.false_eq_true, if_true, if_false] at h
      first | obtain ⟨ha7, h⟩ := apn_some h | (obtain ⟨ha7, h⟩ := apx_some h; rw [List.nil_append] at h)
      simp only [List.length_cons, List.length_nil, Nat.zero_add, Nat.add_zero, Nat.reduceAdd] at ha7
      have hx9 := set_get (y := (Load.mk x3.Member (IntKind.i64.wrap (x3.Actors + 1)))) hx5
      simp (config := { maxSteps := 4000000 }) only [go_sem, Nat.reduceLT, Nat.reduceEqDiff, Nat.reduceAdd, Nat.reduceBEq, Nat.reduceMul, Nat.reduceSub, reduceIte, Nat.reduceLeDiff, reduceCtorEq, Int.reduceNeg, Int.reduceToNat, Int.reduceEq, Int.reduceNe, Int.reduceLT, Int.reduceLE, hr1, hc2, hr3, hb4, hx5, hc6d, ha7, map_modify2 (row := Load.row) (y := (Load.mk x3.Member (IntKind.i64.wrap (x3.Actors + 1)))) (rx := [.val (.int .i64 x3.Member), .val (.int .i64 x3.Actors)]) (ry := [.val (.int .i64 x3.Member), .val (.int .i64 (IntKind.i64.wrap (x3.Actors + 1)))]) hx5 rfl rfl, hx9, FinW_ret]
      repeat' ((with_reducible refine and_bar ?_ ?_); kernel_rfl)
      obtain rfl := Option.some.inj h
      exact ⟨_, rfl, (by repeat' (first | exact ROk.refl _ | exact ROk.nil _ | ((refine ROk.of _ ?_ ?_); (focus ((repeat' (first | exact Le.refl _ | exact LeL.nil | exact Le.nils | exact LeLL.refl _ | refine LeLL.mapAppend ?_ ?_ | refine LeLL.cons ?_ ?_ | refine Le.sl ?_ | refine Le.tup ?_ | refine Le.agg ?_ | refine LeL.cons ?_ ?_)); done)); (focus ((repeat' (first | exact NoOwn.val _ | exact NoOwn.sl _ _ _ _ | refine NoOwn.tup ?_ | refine NoOwn.agg ?_ | exact noOwn_nil | refine noOwn_cons ?_ ?_)); done))) | ((refine ROk.own ?_ ?_); (focus ((repeat' (first | exact Le.refl _ | exact LeL.nil | exact Le.nils | exact LeLL.refl _ | refine LeLL.mapAppend ?_ ?_ | refine LeLL.cons ?_ ?_ | refine Le.sl ?_ | refine Le.tup ?_ | refine Le.agg ?_ | refine LeL.cons ?_ ?_)); done)); (focus ((first | exact RowOk.noOwn Load.row_ok _); done))) | refine ROk.agg rfl ?_ | refine ROk.tup rfl ?_ | exact rok_nil | refine rok_cons ?_ ?_)), (by (repeat' (first | exact PureC.val _ | refine PureC.tup ?_ | refine PureC.agg ?_ | exact pure_nil | refine pure_cons ?_ ?_ | refine PureC.sl ?_ | exact pure_rows Load.row_pure _ |  exact pure_rows_nil | refine pure_rows_append ?_ ?_ | refine pure_rows_cons ?_ ?_)))⟩
def fs_ref35_Place (N : Nat) : FnS := { own := [], pure := true, fn := fun cs => match cs with
  | [c0] => ((decL 2 Load.dec) c0).bind fun qc0 => (ref35_Place N qc0).map fun r => .tup [.sl false none 2 none (r.1.map Load.row), .val (.int .i64 r.2.1), .val (.int .i64 r.2.2)]
  | _ => none }
theorem fs_ref35_Place_own (N : Nat) : (fs_ref35_Place N).own = [] := rfl
theorem fs_ref35_Place_pure (N : Nat) : (fs_ref35_Place N).pure = true := rfl
attribute [go_sem] fs_ref35_Place fs_ref35_Place_own fs_ref35_Place_pure
theorem fs_ref35_Place_ok (N : Nat) : FSOk Try.prog 10 (fs_ref35_Place N) := by
  refine ⟨fun cs r h => ?_, fun h => by cases h⟩
  simp only [fs_ref35_Place] at h
  split at h
  · simp only [Option.bind_eq_some_iff, Option.map_eq_some_iff] at h
    obtain ⟨q0, h0, r', hr, rfl⟩ := h
    exact (((w_ref35_Place N q0 r' hr).args (LeL.cons (decL_le Load.dec_le h0) (LeL.nil))).res (by repeat' (first | exact ROk.refl _ | exact ROk.nil _ | ((refine ROk.of _ ?_ ?_); (focus ((repeat' (first | exact Le.refl _ | exact LeL.nil | exact Le.nils | exact LeLL.refl _ | refine LeLL.mapAppend ?_ ?_ | refine LeLL.cons ?_ ?_ | refine Le.sl ?_ | refine Le.tup ?_ | refine Le.agg ?_ | refine LeL.cons ?_ ?_)); done)); (focus ((repeat' (first | exact NoOwn.val _ | exact NoOwn.sl _ _ _ _ | refine NoOwn.tup ?_ | refine NoOwn.agg ?_ | exact noOwn_nil | refine noOwn_cons ?_ ?_)); done))) | ((refine ROk.own ?_ ?_); (focus ((repeat' (first | exact Le.refl _ | exact LeL.nil | exact Le.nils | exact LeLL.refl _ | refine LeLL.mapAppend ?_ ?_ | refine LeLL.cons ?_ ?_ | refine Le.sl ?_ | refine Le.tup ?_ | refine Le.agg ?_ | refine LeL.cons ?_ ?_)); done)); (focus ((first | exact RowOk.noOwn Load.row_ok _); done))) | refine ROk.agg rfl ?_ | refine ROk.tup rfl ?_ | exact rok_nil | refine rok_cons ?_ ?_)))
  · cases h

def fso_ref35_Place (N : Nat) : FnS := { own := [], pure := true, fn := fun cs => match cs with
  | [c0] => ((decL 2 Load.dec) c0).bind fun qc0 => (ref35_Place N qc0).map fun r => .tup [.sl true none 2 none (r.1.map Load.row), .val (.int .i64 r.2.1), .val (.int .i64 r.2.2)]
  | _ => none }
theorem fso_ref35_Place_own (N : Nat) : (fso_ref35_Place N).own = [] := rfl
theorem fso_ref35_Place_pure (N : Nat) : (fso_ref35_Place N).pure = true := rfl
attribute [go_sem] fso_ref35_Place fso_ref35_Place_own fso_ref35_Place_pure
theorem fso_ref35_Place_ok (N : Nat) : FSOk Try.prog 10 (fso_ref35_Place N) := by
  refine ⟨fun cs r h => ?_, fun h => by cases h⟩
  simp only [fso_ref35_Place] at h
  split at h
  · simp only [Option.bind_eq_some_iff, Option.map_eq_some_iff] at h
    obtain ⟨q0, h0, r', hr, rfl⟩ := h
    exact ((w_ref35_Place N q0 r' hr).args (LeL.cons (decL_le Load.dec_le h0) (LeL.nil)))
  · cases h

end Go.Proofs.Ytpbloecedgddlaa
end

section
set_option linter.unusedSimpArgs false
set_option linter.unusedVariables false
set_option maxRecDepth 100000
namespace Go.Proofs.Ytpbloecedgddlaa
open Go Go.Proofs Go.Abs
noncomputable def E_ref35_of (N : Nat) : Env := { T := tiOf Try.prog, G := fun d f => none }
theorem E_ref35_of_T (N : Nat) : (E_ref35_of N).T = tiOf Try.prog := rfl
theorem E_ref35_of_ok (N : Nat) : GOk Try.prog { T := tiOf Try.prog, G := (E_ref35_of N).G } := by
  intro d f fs hfs
  cases hfs
theorem fo_ref35_of : FunOk Try.prog 34 Try.f34 Try.f34.body.get! := ⟨Try.func34, rfl, by decide, by kernel_rfl⟩
attribute [go_sem] E_ref35_of_T
set_option maxHeartbeats 4000000 in
theorem w_ref35_of (N : Nat) (a0 : (List Load)) (a1 : Int) (r : Int) (h : ref35_of N a0 a1 = some r) : Con Try.prog 34 [] true [.sl false none 2 none (a0.map Load.row), .val (.int .i64 a1)] (.val (.int .i64 r)) := by
  refine fun_ok2 (E := E_ref35_of N) (tiOf_ok Try.prog _) (E_ref35_of_ok N) mix fo_ref35_of (Nat.le_of_ble_eq_true rfl) ?_
  intro _
  rw [entry_tab (by simp)]
  rw [show entryF [] [.sl false none 2 none (a0.map Load.row), .val (.int .i64 a1)] = (updT (updT deadT 0 (.sl false none 2 none (a0.map Load.row))) 1 (.val (.int .i64 a1))) from by funext t; match t with | 0 => rfl | 1 => rfl | t + 2 => rfl]
  apply W_start
  simp only [Try.f34, Option.get!, R0_RZ]
  unfold ref35_of at h
  simp (config := { maxSteps := 4000000 }) only [go_sem, Nat.reduceLT, Nat.reduceEqDiff, Nat.reduceAdd, Nat.reduceBEq, Nat.reduceMul, Nat.reduceSub, reduceIte, Nat.reduceLeDiff, reduceCtorEq, Int.reduceNeg, Int.reduceToNat, Int.reduceEq, Int.reduceNe, Int.reduceLT, Int.reduceLE]
  refine W_real fun hreal2 => ?_
  have hl1 := hreal2.lenT 0 (by decide) (by simp only [go_sem, Nat.reduceLT, Nat.reduceEqDiff, Nat.reduceAdd, Nat.reduceBEq, Nat.reduceMul, Nat.reduceSub, reduceIte, Nat.reduceLeDiff, reduceCtorEq, Int.reduceNeg, Int.reduceToNat, Int.reduceEq, Int.reduceNe, Int.reduceLT, Int.reduceLE, Bool.or_self, List.length_set, Int.natCast_zero, Int.cast_ofNat_Int]; rfl)
  rw [List.length_map] at hl1
  refine W_range (fun (v2 : Nat) (b : Unit) => ⟨tab 20 (updT (updT (updT deadT 0 (.sl false none 2 none (a0.map Load.row))) 1 (.val (.int .i64 a1))) 5 (.val (.int .i64 ((v2 : Nat) : Int)))), RZ⟩) () h ?_ ?_
  · refine weak_roots ?_ ?_
    · (repeat' (first | exact weakX_nil | refine weakX_cons ?_ ?_)) <;> (first | rfl | simp only [go_sem, Nat.reduceLT, Nat.reduceEqDiff, Nat.reduceAdd, Nat.reduceBEq, Nat.reduceMul, Nat.reduceSub, reduceIte, Nat.reduceLeDiff, reduceCtorEq, Int.reduceNeg, Int.reduceToNat, Int.reduceEq, Int.reduceNe, Int.reduceLT, Int.reduceLE, Bool.or_self, List.length_set, Int.natCast_zero, Int.cast_ofNat_Int])
    · (repeat' (first | exact weakR_nil | refine weakR_cons ?_ ?_ ?_)) <;> (first | rfl | simp only [go_sem, Nat.reduceLT, Nat.reduceEqDiff, Nat.reduceAdd, Nat.reduceBEq, Nat.reduceMul, Nat.reduceSub, reduceIte, Nat.reduceLeDiff, reduceCtorEq, Int.reduceNeg, Int.reduceToNat, Int.reduceEq, Int.reduceNe, Int.reduceLT, Int.reduceLE, Bool.or_self, List.length_set, Int.natCast_zero, Int.cast_ofNat_Int])
  · rintro v2 ⟨⟩ hi3 h -
    rcases drop_cases a0 v2 hi3 with ⟨x5, hi3', hx4, hd6⟩ | ⟨hi3', _, hd6⟩
    · rw [hd6] at h
      simp only [ref35_of_L1] at h
      have hw5 := wrap_succ hi3' hl1
      simp (config := { maxSteps := 4000000 }) only [go_sem, Nat.reduceLT, Nat.reduceEqDiff, Nat.reduceAdd, Nat.reduceBEq, Nat.reduceMul, Nat.reduceSub, reduceIte, Nat.reduceLeDiff, reduceCtorEq, Int.reduceNeg, Int.reduceToNat, Int.reduceEq, Int.reduceNe, Int.reduceLT, Int.reduceLE, hx4, hi3', hw5]
      refine W_cond_t rfl ?_
      simp (config := { maxSteps := 4000000 }) only [go_sem, Nat.reduceLT, Nat.reduceEqDiff, Nat.reduceAdd, Nat.reduceBEq, Nat.reduceMul, Nat.reduceSub, reduceIte, Nat.reduceLeDiff, reduceCtorEq, Int.reduceNeg, Int.reduceToNat, Int.reduceEq, Int.reduceNe, Int.reduceLT, Int.reduceLE, hx4, hi3', hw5]
      refine W_cond_dec rfl (fun hc7 => ?_) (fun hc7 => ?_)
      · have hc7d := decide_eq_true hc7
        first | rw [if_pos hc7] at h | rw [if_pos hc7d] at h | simp only [hc7d, Bool.not_true, Bool.not_false, Bool.false_eq_true, if_true, if_false] at h
        simp (config := { maxSteps := 4000000 }) only [go_sem, Nat.reduceLT, Nat.reduceEqDiff, Nat.reduceAdd, Nat.reduceBEq, Nat.reduceMul, Nat.reduceSub, reduceIte, Nat.reduceLeDiff, reduceCtorEq, Int.reduceNeg, Int.reduceToNat, Int.reduceEq, Int.reduceNe, Int.reduceLT, Int.reduceLE, hx4, hi3', hw5, hc7d, FinW_ret]
        obtain rfl := Option.some.inj h
        exact ⟨_, rfl, (by exact ROk.refl _), (by repeat' (first | exact PureC.val _ | refine PureC.tup ?_ | refine PureC.agg ?_ | exact pure_nil | refine pure_cons ?_ ?_))⟩
      · have hc7d := decide_eq_false hc7
        first | rw [if_neg hc7] at h | rw [if_neg (ne_true_of_eq_false hc7d)] at h | simp only [hc7d, Bool.not_true, Bool.not_false, Bool.false_eq_true, if_true, if_false] at h
        simp (config := { maxSteps := 4000000 }) only [go_sem, Nat.reduceLT, Nat.reduceEqDiff, Nat.reduceAdd, Nat.reduceBEq, Nat.reduceMul, Nat.reduceSub, reduceIte, Nat.reduceLeDiff, reduceCtorEq, Int.reduceNeg, Int.reduceToNat, Int.reduceEq, Int.reduceNe, Int.reduceLT, Int.reduceLE, hx4, hi3', hw5, hc7d]
        first | refine ⟨(), ?_, h⟩ | refine ⟨hi3', (), ?_, h⟩
        refine weak_roots ?_ ?_
        · (repeat' (first | exact weakX_nil | refine weakX_cons ?_ ?_)) <;> (first | rfl | simp only [go_sem, Nat.reduceLT, Nat.reduceEqDiff, Nat.reduceAdd, Nat.reduceBEq, Nat.reduceMul, Nat.reduceSub, reduceIte, Nat.reduceLeDiff, reduceCtorEq, Int.reduceNeg, Int.reduceToNat, Int.reduceEq, Int.reduceNe, Int.reduceLT, Int.reduceLE, Bool.or_self, List.length_set, Int.natCast_zero, Int.cast_ofNat_Int, hx4, hi3', hw5, hc7d])
        · (repeat' (first | exact weakR_nil | refine weakR_cons ?_ ?_ ?_)) <;> (first | rfl | simp only [go_sem, Nat.reduceLT, Nat.reduceEqDiff, Nat.reduceAdd, Nat.reduceBEq, Nat.reduceMul, Nat.reduceSub, reduceIte, Nat.reduceLeDiff, reduceCtorEq, Int.reduceNeg, Int.reduceToNat, Int.reduceEq, Int.reduceNe, Int.reduceLT, Int.reduceLE, Bool.or_self, List.length_set, Int.natCast_zero, Int.cast_ofNat_Int, hx4, hi3', hw5, hc7d])
    · rw [hd6] at h
      simp only [ref35_of_L1] at h
      simp (config := { maxSteps := 4000000 }) only [go_sem, Nat.reduceLT, Nat.reduceEqDiff, Nat.reduceAdd, Nat.reduceBEq, Nat.reduceMul, Nat.reduceSub, reduceIte, Nat.reduceLeDiff, reduceCtorEq, Int.reduceNeg, Int.reduceToNat, Int.reduceEq, Int.reduceNe, Int.reduceLT, Int.reduceLE, hi3']
      refine W_cond_f rfl ?_
      simp (config := { maxSteps := 4000000 }) only [go_sem, Nat.reduceLT, Nat.reduceEqDiff, Nat.reduceAdd, Nat.reduceBEq, Nat.reduceMul, Nat.reduceSub, reduceIte, Nat.reduceLeDiff, reduceCtorEq, Int.reduceNeg, Int.reduceToNat, Int.reduceEq, Int.reduceNe, Int.reduceLT, Int.reduceLE, hi3', FinW_ret]
      obtain rfl := Option.some.inj h
      exact ⟨_, rfl, (by exact ROk.refl _), (by repeat' (first | exact PureC.val _ | refine PureC.tup ?_ | refine PureC.agg ?_ | exact pure_nil | refine pure_cons ?_ ?_))⟩
def fs_ref35_of (N : Nat) : FnS := { own := [], pure := true, fn := fun cs => match cs with
  | [c0, c1] => ((decL 2 Load.dec) c0).bind fun qc0 => ((decI .i64) c1).bind fun qc1 => (ref35_of N qc0 qc1).map fun r => .val (.int .i64 r)
  | _ => none }
theorem fs_ref35_of_own (N : Nat) : (fs_ref35_of N).own = [] := rfl
theorem fs_ref35_of_pure (N : Nat) : (fs_ref35_of N).pure = true := rfl
attribute [go_sem] fs_ref35_of fs_ref35_of_own fs_ref35_of_pure
theorem fs_ref35_of_ok (N : Nat) : FSOk Try.prog 34 (fs_ref35_of N) := by
  refine ⟨fun cs r h => ?_, fun h => by cases h⟩
  simp only [fs_ref35_of] at h
  split at h
  · simp only [Option.bind_eq_some_iff, Option.map_eq_some_iff] at h
    obtain ⟨q0, h0, q1, h1, r', hr, rfl⟩ := h
    exact ((w_ref35_of N q0 q1 r' hr).args (LeL.cons (decL_le Load.dec_le h0) (LeL.cons (decI_le h1) (LeL.nil))))
  · cases h

end Go.Proofs.Ytpbloecedgddlaa
end

section
set_option linter.unusedSimpArgs false
set_option linter.unusedVariables false
set_option maxRecDepth 100000
namespace Go.Proofs.Ytpbloecedgddlaa
open Go Go.Proofs Go.Abs
noncomputable def E_ref35_Apply (N : Nat) : Env := { T := tiOf Try.prog, G := fun d f => if d = 11 ∧ f = 15 then some (fs_ref35_Valid N) else if d = 28 ∧ f = 34 then some (fs_ref35_of N) else if d = 35 ∧ f = 34 then some (fs_ref35_of N) else none }
theorem E_ref35_Apply_T (N : Nat) : (E_ref35_Apply N).T = tiOf Try.prog := rfl
theorem E_ref35_Apply_G0 (N : Nat) : (E_ref35_Apply N).G 11 15 = some (fs_ref35_Valid N) := rfl
theorem E_ref35_Apply_G1 (N : Nat) : (E_ref35_Apply N).G 28 34 = some (fs_ref35_of N) := rfl
theorem E_ref35_Apply_G2 (N : Nat) : (E_ref35_Apply N).G 35 34 = some (fs_ref35_of N) := rfl
theorem E_ref35_Apply_ok (N : Nat) : GOk Try.prog { T := tiOf Try.prog, G := (E_ref35_Apply N).G } := by
  intro d f fs hfs
  simp only [E_ref35_Apply] at hfs
  by_cases hc : d = 11 ∧ f = 15
  · rw [if_pos hc] at hfs; obtain ⟨rfl, rfl⟩ := hc; obtain rfl := Option.some.inj hfs; exact fs_ref35_Valid_ok N
  rw [if_neg hc] at hfs
  by_cases hc : d = 28 ∧ f = 34
  · rw [if_pos hc] at hfs; obtain ⟨rfl, rfl⟩ := hc; obtain rfl := Option.some.inj hfs; exact fs_ref35_of_ok N
  rw [if_neg hc] at hfs
  by_cases hc : d = 35 ∧ f = 34
  · rw [if_pos hc] at hfs; obtain ⟨rfl, rfl⟩ := hc; obtain rfl := Option.some.inj hfs; exact fs_ref35_of_ok N
  rw [if_neg hc] at hfs
  cases hfs
theorem fo_ref35_Apply : FunOk Try.prog 12 Try.f12 Try.f12.body.get! := ⟨Try.func12, rfl, by decide, by kernel_rfl⟩
attribute [go_sem] E_ref35_Apply_T E_ref35_Apply_G0 E_ref35_Apply_G1 E_ref35_Apply_G2
set_option maxHeartbeats 4000000 in
theorem w_ref35_Apply (N : Nat) (a0 : (List Load)) (a1 : (List LoadMove)) (r : (List Load) × Int) (h : ref35_Apply N a0 a1 = some r) : Con Try.prog 12 [] true [.sl false none 2 none (a0.map Load.row), .sl false none 2 none (a1.map LoadMove.row)] (.tup [.sl true none 2 none (r.1.map Load.row), .val (.int .i64 r.2)]) := by
  refine fun_ok2 (E := E_ref35_Apply N) (tiOf_ok Try.prog _) (E_ref35_Apply_ok N) mix fo_ref35_Apply (Nat.le_of_ble_eq_true rfl) ?_
  intro _
  rw [entry_tab (by simp)]
  rw [show entryF [] [.sl false none 2 none (a0.map Load.row), .sl false none 2 none (a1.map LoadMove.row)] = (updT (updT deadT 0 (.sl false none 2 none (a0.map Load.row))) 1 (.sl false none 2 none (a1.map LoadMove.row))) from by funext t; match t with | 0 => rfl | 1 => rfl | t + 2 => rfl]
  apply W_start
  simp only [Try.f12, Option.get!, R0_RZ]
  unfold ref35_Apply at h
  obtain ⟨r1, hr1, h⟩ := Option.bind_eq_some_iff.1 h
  simp (config := { maxSteps := 4000000 }) only [go_sem, Nat.reduceLT, Nat.reduceEqDiff, Nat.reduceAdd, Nat.reduceBEq, Nat.reduceMul, Nat.reduceSub, reduceIte, Nat.reduceLeDiff, reduceCtorEq, Int.reduceNeg, Int.reduceToNat, Int.reduceEq, Int.reduceNe, Int.reduceLT, Int.reduceLE, hr1]
  repeat' ((with_reducible refine and_bar ?_ ?_); kernel_rfl)
  refine W_cond_nbool rfl (fun hc2 => ?_) (fun hc2 => ?_)
  · first | rw [if_neg (ne_true_of_eq_false hc2)] at h | simp only [hc2, Bool.not_true, Bool.not_false, Bool.false_eq_true, if_true, if_false] at h
    simp (config := { maxSteps := 4000000 }) only [go_sem, Nat.reduceLT, Nat.reduceEqDiff, Nat.reduceAdd, Nat.reduceBEq, Nat.reduceMul, Nat.reduceSub, reduceIte, Nat.reduceLeDiff, reduceCtorEq, Int.reduceNeg, Int.reduceToNat, Int.reduceEq, Int.reduceNe, Int.reduceLT, Int.reduceLE, hr1, hc2, FinW_ret]
    repeat' ((with_reducible refine and_bar ?_ ?_); kernel_rfl)
    obtain rfl := Option.some.inj h
    exact ⟨_, rfl, (by repeat' (first | exact ROk.refl _ | exact ROk.nil _ | ((refine ROk.of _ ?_ ?_); (focus ((repeat' (first | exact Le.refl _ | exact LeL.nil | exact Le.nils | exact LeLL.refl _ | refine LeLL.mapAppend ?_ ?_ | refine LeLL.cons ?_ ?_ | refine Le.sl ?_ | refine Le.tup ?_ | refine Le.agg ?_ | refine LeL.cons ?_ ?_)); done)); (focus ((repeat' (first | exact NoOwn.val _ | exact NoOwn.sl _ _ _ _ | refine NoOwn.tup ?_ | refine NoOwn.agg ?_ | exact noOwn_nil | refine noOwn_cons ?_ ?_)); done))) | ((refine ROk.own ?_ ?_); (focus ((repeat' (first | exact Le.refl _ | exact LeL.nil | exact Le.nils | exact LeLL.refl _ | refine LeLL.mapAppend ?_ ?_ | refine LeLL.cons ?_ ?_ | refine Le.sl ?_ | refine Le.tup ?_ | refine Le.agg ?_ | refine LeL.cons ?_ ?_)); done)); (focus ((first | exact RowOk.noOwn Load.row_ok _ | exact RowOk.noOwn LoadMove.row_ok _); done))) | refine ROk.agg rfl ?_ | refine ROk.tup rfl ?_ | exact rok_nil | refine rok_cons ?_ ?_)), (by (repeat' (first | exact PureC.val _ | refine PureC.tup ?_ | refine PureC.agg ?_ | exact pure_nil | refine pure_cons ?_ ?_ | refine PureC.sl ?_ | exact pure_rows Load.row_pure _ | exact pure_rows LoadMove.row_pure _ |  exact pure_rows_nil | refine pure_rows_append ?_ ?_ | refine pure_rows_cons ?_ ?_)))⟩
  · first | rw [if_pos hc2] at h | simp only [hc2, Bool.not_true, Bool.not_false, Bool.false_eq_true, if_true, if_false] at h
    first | obtain ⟨ha3, h⟩ := apn_some h | (obtain ⟨ha3, h⟩ := apx_some h; rw [List.nil_append] at h)
    simp only [List.length_cons, List.length_nil, Nat.zero_add, Nat.add_zero, Nat.reduceAdd] at ha3
    simp (config := { maxSteps := 4000000 }) only [go_sem, Nat.reduceLT, Nat.reduceEqDiff, Nat.reduceAdd, Nat.reduceBEq, Nat.reduceMul, Nat.reduceSub, reduceIte, Nat.reduceLeDiff, reduceCtorEq, Int.reduceNeg, Int.reduceToNat, Int.reduceEq, Int.reduceNe, Int.reduceLT, Int.reduceLE, hr1, hc2, ha3]
    repeat' ((with_reducible refine and_bar ?_ ?_); kernel_rfl)
    refine W_real fun hreal5 => ?_
    have hl4 := hreal5.lenT 1 (by decide) (by simp only [go_sem, Nat.reduceLT, Nat.reduceEqDiff, Nat.reduceAdd, Nat.reduceBEq, Nat.reduceMul, Nat.reduceSub, reduceIte, Nat.reduceLeDiff, reduceCtorEq, Int.reduceNeg, Int.reduceToNat, Int.reduceEq, Int.reduceNe, Int.reduceLT, Int.reduceLE, Bool.or_self, List.length_set, Int.natCast_zero, Int.cast_ofNat_Int, hr1, hc2, ha3]; rfl)
    rw [List.length_map] at hl4
    refine W_range (fun (v5 : Nat) (b : List Load) => ⟨tab 76 (updT (updT (updT deadT 1 (.sl false none 2 none (a1.map LoadMove.row))) 6 (.pal 15 [] 0 b.length none)) 7 (.val (.int .i64 ((v5 : Nat) : Int)))), (upd RZ 15 (.sl true none 2 none (b.map Load.row)))⟩) a0 h ?_ ?_
    · refine weak_roots ?_ ?_
      · (repeat' (first | exact weakX_nil | refine weakX_cons ?_ ?_)) <;> (first | rfl | simp only [go_sem, Nat.reduceLT, Nat.reduceEqDiff, Nat.reduceAdd, Nat.reduceBEq, Nat.reduceMul, Nat.reduceSub, reduceIte, Nat.reduceLeDiff, reduceCtorEq, Int.reduceNeg, Int.reduceToNat, Int.reduceEq, Int.reduceNe, Int.reduceLT, Int.reduceLE, Bool.or_self, List.length_set, Int.natCast_zero, Int.cast_ofNat_Int, hr1, hc2, ha3])
      · (repeat' (first | exact weakR_nil | refine weakR_cons ?_ ?_ ?_)) <;> (first | rfl | simp only [go_sem, Nat.reduceLT, Nat.reduceEqDiff, Nat.reduceAdd, Nat.reduceBEq, Nat.reduceMul, Nat.reduceSub, reduceIte, Nat.reduceLeDiff, reduceCtorEq, Int.reduceNeg, Int.reduceToNat, Int.reduceEq, Int.reduceNe, Int.reduceLT, Int.reduceLE, Bool.or_self, List.length_set, Int.natCast_zero, Int.cast_ofNat_Int, hr1, hc2, ha3])
    · rintro v5 l4 hi6 h -
      rcases drop_cases a1 v5 hi6 with ⟨x8, hi6', hx7, hd9⟩ | ⟨hi6', _, hd9⟩
      · rw [hd9] at h
        simp only [ref35_Apply_L1] at h
        have hw8 := wrap_succ hi6' hl4
        simp (config := { maxSteps := 4000000 }) only [go_sem, Nat.reduceLT, Nat.reduceEqDiff, Nat.reduceAdd, Nat.reduceBEq, Nat.reduceMul, Nat.reduceSub, reduceIte, Nat.reduceLeDiff, reduceCtorEq, Int.reduceNeg, Int.reduceToNat, Int.reduceEq, Int.reduceNe, Int.reduceLT, Int.reduceLE, hr1, hc2, ha3, hx7, hi6', hw8]
        repeat' ((with_reducible refine and_bar ?_ ?_); kernel_rfl)
        refine W_cond_t rfl ?_
        obtain ⟨r2, hr10, h⟩ := Option.bind_eq_some_iff.1 h
        obtain ⟨r3, hr11, h⟩ := Option.bind_eq_some_iff.1 h
        simp (config := { maxSteps := 4000000 }) only [go_sem, Nat.reduceLT, Nat.reduceEqDiff, Nat.reduceAdd, Nat.reduceBEq, Nat.reduceMul, Nat.reduceSub, reduceIte, Nat.reduceLeDiff, reduceCtorEq, Int.reduceNeg, Int.reduceToNat, Int.reduceEq, Int.reduceNe, Int.reduceLT, Int.reduceLE, hr1, hc2, ha3, hx7, hi6', hw8, hr10, hr11]
        repeat' ((with_reducible refine and_bar ?_ ?_); kernel_rfl)
        refine RX_guard_dec rfl (fun hc12 => ?_) (fun hc12 => ?_)
        · have hc12d := decide_eq_true hc12
          first | rw [if_pos hc12] at h | rw [if_pos hc12d] at h | simp only [hc12d, Bool.not_true, Bool.not_false, Bool.false_eq_true, if_true, if_false] at h
          unfold ref35_Apply_J1 at h
          simp (config := { maxSteps := 4000000 }) only [go_sem, Nat.reduceLT, Nat.reduceEqDiff, Nat.reduceAdd, Nat.reduceBEq, Nat.reduceMul, Nat.reduceSub, reduceIte, Nat.reduceLeDiff, reduceCtorEq, Int.reduceNeg, Int.reduceToNat, Int.reduceEq, Int.reduceNe, Int.reduceLT, Int.reduceLE, hr1, hc2, ha3, hx7, hi6', hw8, hr10, hr11, hc12d]
          repeat' ((with_reducible refine and_bar ?_ ?_); kernel_rfl)
          refine W_cond_t rfl ?_
          first | rw [if_pos (rfl : true = true)] at h | rw [if_neg Bool.false_ne_true] at h | skip
          simp (config := { maxSteps := 4000000 }) only [go_sem, Nat.reduceLT, Nat.reduceEqDiff, Nat.reduceAdd, Nat.reduceBEq, Nat.reduceMul, Nat.reduceSub, reduceIte, Nat.reduceLeDiff, reduceCtorEq, Int.reduceNeg, Int.reduceToNat, Int.reduceEq, Int.reduceNe, Int.reduceLT, Int.reduceLE, hr1, hc2, ha3, hx7, hi6', hw8, hr10, hr11, hc12d, FinW_ret]
          repeat' ((with_reducible refine and_bar ?_ ?_); kernel_rfl)
          obtain rfl := Option.some.inj h
          exact ⟨_, rfl, (by repeat' (first | exact ROk.refl _ | exact ROk.nil _ | ((refine ROk.of _ ?_ ?_); (focus ((repeat' (first | exact Le.refl _ | exact LeL.nil | exact Le.nils | exact LeLL.refl _ | refine LeLL.mapAppend ?_ ?_ | refine LeLL.cons ?_ ?_ | refine Le.sl ?_ | refine Le.tup ?_ | refine Le.agg ?_ | refine LeL.cons ?_ ?_)); done)); (focus ((repeat' (first | exact NoOwn.val _ | exact NoOwn.sl _ _ _ _ | refine NoOwn.tup ?_ | refine NoOwn.agg ?_ | exact noOwn_nil | refine noOwn_cons ?_ ?_)); done))) | ((refine ROk.own ?_ ?_); (focus ((repeat' (first | exact Le.refl _ | exact LeL.nil | exact Le.nils | exact LeLL.refl _ | refine LeLL.mapAppend ?_ ?_ | refine LeLL.cons ?_ ?_ | refine Le.sl ?_ | refine Le.tup ?_ | refine Le.agg ?_ | refine LeL.cons ?_ ?_)); done)); (focus ((first | exact RowOk.noOwn Load.row_ok _ | exact RowOk.noOwn LoadMove.row_ok _); done))) | refine ROk.agg rfl ?_ | refine ROk.tup rfl ?_ | exact rok_nil | refine rok_cons ?_ ?_)), (by (repeat' (first | exact PureC.val _ | refine PureC.tup ?_ | refine PureC.agg ?_ | exact pure_nil | refine pure_cons ?_ ?_ | refine PureC.sl ?_ | exact pure_rows Load.row_pure _ | exact pure_rows LoadMove.row_pure _ |  exact pure_rows_nil | refine pure_rows_append ?_ ?_ | refine pure_rows_cons ?_ ?_)))⟩
        · have hc12d := decide_eq_false hc12
          first | rw [if_neg hc12] at h | rw [if_neg (ne_true_of_eq_false hc12d)] at h | simp only [hc12d, Bool.not_true, Bool.not_false, Bool.false_eq_true, if_true, if_false] at h
          unfold ref35_Apply_J1 at h
          simp (config := { maxSteps := 4000000 }) only [go_sem, Nat.reduceLT, Nat.reduceEqDiff, Nat.reduceAdd, Nat.reduceBEq, Nat.reduceMul, Nat.reduceSub, reduceIte, Nat.reduceLeDiff, reduceCtorEq, Int.reduceNeg, Int.reduceToNat, Int.reduceEq, Int.reduceNe, Int.reduceLT, Int.reduceLE, hr1, hc2, ha3, hx7, hi6', hw8, hr10, hr11, hc12d]
          repeat' ((with_reducible refine and_bar ?_ ?_); kernel_rfl)
          refine W_cond_dec rfl (fun hc13 => ?_) (fun hc13 => ?_)
          · have hc13d := decide_eq_true hc13
            first | rw [if_pos hc13] at h | rw [if_pos hc13d] at h | simp only [hc13d, Bool.not_true, Bool.not_false, Bool.false_eq_true, if_true, if_false] at h
            simp (config := { maxSteps := 4000000 }) only [go_sem, Nat.reduceLT, Nat.reduceEqDiff, Nat.reduceAdd, Nat.reduceBEq, Nat.reduceMul, Nat.reduceSub, reduceIte, Nat.reduceLeDiff, reduceCtorEq, Int.reduceNeg, Int.reduceToNat, Int.reduceEq, Int.reduceNe, Int.reduceLT, Int.reduceLE, hr1, hc2, ha3, hx7, hi6', hw8, hr10, hr11, hc12d, hc13d, FinW_ret]
            repeat' ((with_reducible refine and_bar ?_ ?_); kernel_rfl)
            obtain rfl := Option.some.inj h
            exact ⟨_, rfl, (by repeat' (first | exact ROk.refl _ | exact ROk.nil _ | ((refine ROk.of _ ?_ ?_); (focus ((repeat' (first | exact Le.refl _ | exact LeL.nil | exact Le.nils | exact LeLL.refl _ | refine LeLL.mapAppend ?_ ?_ | refine LeLL.cons ?_ ?_ | refine Le.sl ?_ | refine Le.tup ?_ | refine Le.agg ?_ | refine LeL.cons ?_ ?_)); done)); (focus ((repeat' (first | exact NoOwn.val _ | exact NoOwn.sl _ _ _ _ | refine NoOwn.tup ?_ | refine NoOwn.agg ?_ | exact noOwn_nil | refine noOwn_cons ?_ ?_)); done))) | ((refine ROk.own ?_ ?_); (focus ((repeat' (first | exact Le.refl _ | exact LeL.nil | exact Le.nils | exact LeLL.refl _ | refine LeLL.mapAppend ?_ ?_ | refine LeLL.cons ?_ ?_ | refine Le.sl ?_ | refine Le.tup ?_ | refine Le.agg ?_ | refine LeL.cons ?_ ?_)); done)); (focus ((first | exact RowOk.noOwn Load.row_ok _ | exact RowOk.noOwn LoadMove.row_ok _); done))) | refine ROk.agg rfl ?_ | refine ROk.tup rfl ?_ | exact rok_nil | refine rok_cons ?_ ?_)), (by (repeat' (first | exact PureC.val _ | refine PureC.tup ?_ | refine PureC.agg ?_ | exact pure_nil | refine pure_cons ?_ ?_ | refine PureC.sl ?_ | exact pure_rows Load.row_pure _ | exact pure_rows LoadMove.row_pure _ |  exact pure_rows_nil | refine pure_rows_append ?_ ?_ | refine pure_rows_cons ?_ ?_)))⟩
          · have hc13d := decide_eq_false hc13
            first | rw [if_neg hc13] at h | rw [if_neg (ne_true_of_eq_false hc13d)] at h | simp only [hc13d, Bool.not_true, Bool.not_false, Bool.false_eq_true, if_true, if_false] at h
            unfold ref35_Apply_J4 at h
            simp (config := { maxSteps := 4000000 }) only [go_sem, Nat.reduceLT, Nat.reduceEqDiff, Nat.reduceAdd, Nat.reduceBEq, Nat.reduceMul, Nat.reduceSub, reduceIte, Nat.reduceLeDiff, reduceCtorEq, Int.reduceNeg, Int.reduceToNat, Int.reduceEq, Int.reduceNe, Int.reduceLT, Int.reduceLE, hr1, hc2, ha3, hx7, hi6', hw8, hr10, hr11, hc12d, hc13d]
            repeat' ((with_reducible refine and_bar ?_ ?_); kernel_rfl)
            refine W_cond_dec rfl (fun hc14 => ?_) (fun hc14 => ?_)
            · have hc14d := decide_eq_true hc14
              first | rw [if_pos hc14] at h | rw [if_pos hc14d] at h | simp only [hc14d, Bool.not_true, Bool.not_false, Bool.false_eq_true, if_true, if_false] at h
              simp (config := { maxSteps := 4000000 }) only [go_sem, Nat.reduceLT, Nat.reduceEqDiff, Nat.reduceAdd, Nat.reduceBEq, Nat.reduceMul, Nat.reduceSub, reduceIte, Nat.reduceLeDiff, reduceCtorEq, Int.reduceNeg, Int.reduceToNat, Int.reduceEq, Int.reduceNe, Int.reduceLT, Int.reduceLE, hr1, hc2, ha3, hx7, hi6', hw8, hr10, hr11, hc12d, hc13d, hc14d, FinW_ret]
              repeat' ((with_reducible refine and_bar ?_ ?_); kernel_rfl)
              obtain rfl := Option.some.inj h
              exact ⟨_, rfl, (by repeat' (first | exact ROk.refl _ | exact ROk.nil _ | ((refine ROk.of _ ?_ ?_); (focus ((repeat' (first | exact Le.refl _ | exact LeL.nil | exact Le.nils | exact LeLL.refl _ | refine LeLL.mapAppend ?_ ?_ | refine LeLL.cons ?_ ?_ | refine Le.sl ?_ | refine Le.tup ?_ | refine Le.agg ?_ | refine LeL.cons ?_ ?_)); done)); (focus ((repeat' (first | exact NoOwn.val _ | exact NoOwn.sl _ _ _ _ | refine NoOwn.tup ?_ | refine NoOwn.agg ?_ | exact noOwn_nil | refine noOwn_cons ?_ ?_)); done))) | ((refine ROk.own ?_ ?_); (focus ((repeat' (first | exact Le.refl _ | exact LeL.nil | exact Le.nils | exact LeLL.refl _ | refine LeLL.mapAppend ?_ ?_ | refine LeLL.cons ?_ ?_ | refine Le.sl ?_ | refine Le.tup ?_ | refine Le.agg ?_ | refine LeL.cons ?_ ?_)); done)); (focus ((first | exact RowOk.noOwn Load.row_ok _ | exact RowOk.noOwn LoadMove.row_ok _); done))) | refine ROk.agg rfl ?_ | refine ROk.tup rfl ?_ | exact rok_nil | refine rok_cons ?_ ?_)), (by (repeat' (first | exact PureC.val _ | refine PureC.tup ?_ | refine PureC.agg ?_ | exact pure_nil | refine pure_cons ?_ ?_ | refine PureC.sl ?_ | exact pure_rows Load.row_pure _ | exact pure_rows LoadMove.row_pure _ |  exact pure_rows_nil | refine pure_rows_append ?_ ?_ | refine pure_rows_cons ?_ ?_)))⟩
            · have hc14d := decide_eq_false hc14
              first | rw [if_neg hc14] at h | rw [if_neg (ne_true_of_eq_false hc14d)] at h | simp only [hc14d, Bool.not_true, Bool.not_false, Bool.false_eq_true, if_true, if_false] at h
              obtain ⟨x4, hb15, hx16, h⟩ := gx_some h
              simp (config := { maxSteps := 4000000 }) only [go_sem, Nat.reduceLT, Nat.reduceEqDiff, Nat.reduceAdd, Nat.reduceBEq, Nat.reduceMul, Nat.reduceSub, reduceIte, Nat.reduceLeDiff, reduceCtorEq, Int.reduceNeg, Int.reduceToNat, Int.reduceEq, Int.reduceNe, Int.reduceLT, Int.reduceLE, hr1, hc2, ha3, hx7, hi6', hw8, hr10, hr11, hc12d, hc13d, hc14d, hb15, hx16]
              repeat' ((with_reducible refine and_bar ?_ ?_); kernel_rfl)
              refine RX_guard_dec rfl (fun hc17 => ?_) (fun hc17 => ?_)
              · have hc17d := decide_eq_true hc17
                first | rw [if_pos hc17] at h | rw [if_pos hc17d] at h | simp only [hc17d, Bool.not_true, Bool.not_false, Bool.false_eq_true, if_true, if_false] at h
                unfold ref35_Apply_J2 at h
                simp (config := { maxSteps := 4000000 }) only [go_sem, Nat.reduceLT, Nat.reduceEqDiff, Nat.reduceAdd, Nat.reduceBEq, Nat.reduceMul, Nat.reduceSub, reduceIte, Nat.reduceLeDiff, reduceCtorEq, Int.reduceNeg, Int.reduceToNat, Int.reduceEq, Int.reduceNe, Int.reduceLT, Int.reduceLE, hr1, hc2, ha3, hx7, hi6', hw8, hr10, hr11, hc12d, hc13d, hc14d, hb15, hx16, hc17d]
                repeat' ((with_reducible refine and_bar ?_ ?_); kernel_rfl)
                refine W_cond_t rfl ?_
                first | rw [if_pos (rfl : true = true)] at h | rw [if_neg Bool.false_ne_true] at h | skip
                simp (config := { maxSteps := 4000000 }) only [go_sem, Nat.reduceLT, Nat.reduceEqDiff, Nat.reduceAdd, Nat.reduceBEq, Nat.reduceMul, Nat.reduceSub, reduceIte, Nat.reduceLeDiff, reduceCtorEq, Int.reduceNeg, Int.reduceToNat, Int.reduceEq, Int.reduceNe, Int.reduceLT, Int.reduceLE, hr1, hc2, ha3, hx7, hi6', hw8, hr10, hr11, hc12d, hc13d, hc14d, hb15, hx16, hc17d, FinW_ret]
                repeat' ((with_reducible refine and_bar ?_ ?_); kernel_rfl)
                obtain rfl := Option.some.inj h
                exact ⟨_, rfl, (by repeat' (first | exact ROk.refl _ | exact ROk.nil _ | ((refine ROk.of _ ?_ ?_); (focus ((repeat' (first | exact Le.refl _ | exact LeL.nil | exact Le.nils | exact LeLL.refl _ | refine LeLL.mapAppend ?_ ?_ | refine LeLL.cons ?_ ?_ | refine Le.sl ?_ | refine Le.tup ?_ | refine Le.agg ?_ | refine LeL.cons ?_ ?_)); done)); (focus ((repeat' (first | exact NoOwn.val _ | exact NoOwn.sl _ _ _ _ | refine NoOwn.tup ?_ | refine NoOwn.agg ?_ | exact noOwn_nil | refine noOwn_cons ?_ ?_)); done))) | ((refine ROk.own ?_ ?_); (focus ((repeat' (first | exact Le.refl _ | exact LeL.nil | exact Le.nils | exact LeLL.refl _ | refine LeLL.mapAppend ?_ ?_ | refine LeLL.cons ?_ ?_ | refine Le.sl ?_ | refine Le.tup ?_ | refine Le.agg ?_ | refine LeL.cons ?_ ?_)); done)); (focus ((first | exact RowOk.noOwn Load.row_ok _ | exact RowOk.noOwn LoadMove.row_ok _); done))) | refine ROk.agg rfl ?_ | refine ROk.tup rfl ?_ | exact rok_nil | refine rok_cons ?_ ?_)), (by (repeat' (first | exact PureC.val _ | refine PureC.tup ?_ | refine PureC.agg ?_ | exact pure_nil | refine pure_cons ?_ ?_ | refine PureC.sl ?_ | exact pure_rows Load.row_pure _ | exact pure_rows LoadMove.row_pure _ |  exact pure_rows_nil | refine pure_rows_append ?_ ?_ | refine pure_rows_cons ?_ ?_)))⟩
              · have hc17d := decide_eq_false hc17
                first | rw [if_neg hc17] at h | rw [if_neg (ne_true_of_eq_false hc17d)] at h | simp only [hc17d, Bool.not_true, Bool.not_false, Bool.false_eq_true, if_true, if_false] at h
                obtain ⟨x5, hb18, hx19, h⟩ := gx_some h
                unfold ref35_Apply_J2 at h
                simp (config := { maxSteps := 4000000 }) only [go_sem, Nat.reduceLT, Nat.reduceEqDiff, Nat.reduceAdd, Nat.reduceBEq, Nat.reduceMul, Nat.reduceSub, reduceIte, Nat.reduceLeDiff, reduceCtorEq, Int.reduceNeg, Int.reduceToNat, Int.reduceEq, Int.reduceNe, Int.reduceLT, Int.reduceLE, hr1, hc2, ha3, hx7, hi6', hw8, hr10, hr11, hc12d, hc13d, hc14d, hb15, hx16, hc17d, hb18, hx19]
                repeat' ((with_reducible refine and_bar ?_ ?_); kernel_rfl)
                refine W_cond_dec rfl (fun hc20 => ?_) (fun hc20 => ?_)
                · have hc20d := decide_eq_true hc20
                  first | rw [if_pos hc20] at h | rw [if_pos hc20d] at h | simp only [hc20d, Bool.not_true, Bool.not_false, Bool.false_eq_true, if_true, if_false] at h
                  simp (config := { maxSteps := 4000000 }) only [go_sem, Nat.reduceLT, Nat.reduceEqDiff, Nat.reduceAdd, Nat.reduceBEq, Nat.reduceMul, Nat.reduceSub, reduceIte, Nat.reduceLeDiff, reduceCtorEq, Int.reduceNeg, Int.reduceToNat, Int.reduceEq, Int.reduceNe, Int.reduceLT, Int.reduceLE, hr1, hc2, ha3, hx7, hi6', hw8, hr10, hr11, hc12d, hc13d, hc14d, hb15, hx16, hc17d, hb18, hx19, hc20d, FinW_ret]
                  repeat' ((with_reducible refine and_bar ?_ ?_); kernel_rfl)
                  obtain rfl := Option.some.inj h
                  exact ⟨_, rfl, (by repeat' (first | exact ROk.refl _ | exact ROk.nil _ | ((refine ROk.of _ ?_ ?_); (focus ((repeat' (first | exact Le.refl _ | exact LeL.nil | exact Le.nils | exact LeLL.refl _ | refine LeLL.mapAppend ?_ ?_ | refine LeLL.cons ?_ ?_ | refine Le.sl ?_ | refine Le.tup ?_ | refine Le.agg ?_ | refine LeL.cons ?_ ?_)); done)); (focus ((repeat' (first | exact NoOwn.val _ | exact NoOwn.sl _ _ _ _ | refine NoOwn.tup ?_ | refine NoOwn.agg ?_ | exact noOwn_nil | refine noOwn_cons ?_ ?_)); done))) | ((refine ROk.own ?_ ?_); (focus ((repeat' (first | exact Le.refl _ | exact LeL.nil | exact Le.nils | exact LeLL.refl _ | refine LeLL.mapAppend ?_ ?_ | refine LeLL.cons ?_ ?_ | refine Le.sl ?_ | refine Le.tup ?_ | refine Le.agg ?_ | refine LeL.cons ?_ ?_)); done)); (focus ((first | exact RowOk.noOwn Load.row_ok _ | exact RowOk.noOwn LoadMove.row_ok _); done))) | refine ROk.agg rfl ?_ | refine ROk.tup rfl ?_ | exact rok_nil | refine rok_cons ?_ ?_)), (by (repeat' (first | exact PureC.val _ | refine PureC.tup ?_ | refine PureC.agg ?_ | exact pure_nil | refine pure_cons ?_ ?_ | refine PureC.sl ?_ | exact pure_rows Load.row_pure _ | exact pure_rows LoadMove.row_pure _ |  exact pure_rows_nil | refine pure_rows_append ?_ ?_ | refine pure_rows_cons ?_ ?_)))⟩
                · have hc20d := decide_eq_false hc20
                  first | rw [if_neg hc20] at h | rw [if_neg (ne_true_of_eq_false hc20d)] at h | simp only [hc20d, Bool.not_true, Bool.not_false, Bool.false_eq_true, if_true, if_false] at h
                  unfold ref35_Apply_J3 at h
                  obtain ⟨x6, hb21, hx22, h⟩ := gx_some h
                  obtain rfl := get_same hx16 hx22
                  have hx24 := set_get (y := (Load.mk x4.Member (IntKind.i64.wrap (x4.Actors - 1)))) hx16
                  obtain ⟨x7, hb25, hx26, h⟩ := gx_some h
                  have hx28 := set_get (y := (Load.mk x7.Member (IntKind.i64.wrap (x7.Actors + 1)))) hx26
                  simp (config := { maxSteps := 4000000 }) only [go_sem, Nat.reduceLT, Nat.reduceEqDiff, Nat.reduceAdd, Nat.reduceBEq, Nat.reduceMul, Nat.reduceSub, reduceIte, Nat.reduceLeDiff, reduceCtorEq, Int.reduceNeg, Int.reduceToNat, Int.reduceEq, Int.reduceNe, Int.reduceLT, Int.reduceLE, hr1, hc2, ha3, hx7, hi6', hw8, hr10, hr11, hc12d, hc13d, hc14d, hb15, hx16, hc17d, hb18, hx19, hc20d, hb21, map_modify2 (row := Load.row) (y := (Load.mk x4.Member (IntKind.i64.wrap (x4.Actors - 1)))) (rx := [.val (.int .i64 x4.Member), .val (.int .i64 x4.Actors)]) (ry := [.val (.int .i64 x4.Member), .val (.int .i64 (IntKind.i64.wrap (x4.Actors - 1)))]) hx16 rfl rfl, hx24, hb25, hx26, map_modify2 (row := Load.row) (y := (Load.mk x7.Member (IntKind.i64.wrap (x7.Actors + 1)))) (rx := [.val (.int .i64 x7.Member), .val (.int .i64 x7.Actors)]) (ry := [.val (.int .i64 x7.Member), .val (.int .i64 (IntKind.i64.wrap (x7.Actors + 1)))]) hx26 rfl rfl, hx28]
                  repeat' ((with_reducible refine and_bar ?_ ?_); kernel_rfl)
                  first | refine ⟨((l4.set ((r2).toNat) (Load.mk x4.Member (IntKind.i64.wrap (x4.Actors - 1)))).set ((r3).toNat) (Load.mk x7.Member (IntKind.i64.wrap (x7.Actors + 1)))), ?_, h⟩ | refine ⟨hi6', ((l4.set ((r2).toNat) (Load.mk x4.Member (IntKind.i64.wrap (x4.Actors - 1)))).set ((r3).toNat) (Load.mk x7.Member (IntKind.i64.wrap (x7.Actors + 1)))), ?_, h⟩
                  refine weak_roots ?_ ?_
                  · (repeat' (first | exact weakX_nil | refine weakX_cons ?_ ?_)) <;> (first | rfl | simp only [go_sem, Nat.reduceLT, Nat.reduceEqDiff, Nat.reduceAdd, Nat.reduceBEq, Nat.reduceMul, Nat.reduceSub, reduceIte, Nat.reduceLeDiff, reduceCtorEq, Int.reduceNeg, Int.reduceToNat, Int.reduceEq, Int.reduceNe, Int.reduceLT, Int.reduceLE, Bool.or_self, List.length_set, Int.natCast_zero, Int.cast_ofNat_Int, hr1, hc2, ha3, hx7, hi6', hw8, hr10, hr11, hc12d, hc13d, hc14d, hb15, hx16, hc17d, hb18, hx19, hc20d, hb21, map_modify2 (row := Load.row) (y := (Load.mk x4.Member (IntKind.i64.wrap (x4.Actors - 1)))) (rx := [.val (.int .i64 x4.Member), .val (.int .i64 x4.Actors)]) (ry := [.val (.int .i64 x4.Member), .val (.int .i64 (IntKind.i64.wrap (x4.Actors - 1)))]) hx16 rfl rfl, hx24, hb25, hx26, map_modify2 (row := Load.row) (y := (Load.mk x7.Member (IntKind.i64.wrap (x7.Actors + 1)))) (rx := [.val (.int .i64 x7.Member), .val (.int .i64 x7.Actors)]) (ry := [.val (.int .i64 x7.Member), .val (.int .i64 (IntKind.i64.wrap (x7.Actors + 1)))]) hx26 rfl rfl, hx28])
                  · (repeat' (first | exact weakR_nil | refine weakR_cons ?_ ?_ ?_)) <;> (first | rfl | simp only [go_sem, Nat.reduceLT, Nat.reduceEqDiff, Nat.reduceAdd, Nat.reduceBEq, Nat.reduceMul, Nat.reduceSub, reduceIte, Nat.reduceLeDiff, reduceCtorEq, Int.reduceNeg, Int.reduceToNat, Int.reduceEq, Int.reduceNe, Int.reduceLT, Int.reduceLE, Bool.or_self, List.length_set, Int.natCast_zero, Int.cast_ofNat_Int, hr1, hc2, ha3, hx7, hi6', hw8, hr10, hr11, hc12d, hc13d, hc14d, hb15, hx16, hc17d, hb18, hx19, hc20d, hb21, map_modify2 (row := Load.row) (y := (Load.mk x4.Member (IntKind.i64.wrap (x4.Actors - 1)))) (rx := [.val (.int .i64 x4.Member), .val (.int .i64 x4.Actors)]) (ry := [.val (.int .i64 x4.Member), .val (.int .i64 (IntKind.i64.wrap (x4.Actors - 1)))]) hx16 rfl rfl, hx24, hb25, hx26, map_modify2 (row := Load.row) (y := (Load.mk x7.Member (IntKind.i64.wrap (x7.Actors + 1)))) (rx := [.val (.int .i64 x7.Member), .val (.int .i64 x7.Actors)]) (ry := [.val (.int .i64 x7.Member), .val (.int .i64 (IntKind.i64.wrap (x7.Actors + 1)))]) hx26 rfl rfl, hx28])
      · rw [hd9] at h
        simp only [ref35_Apply_L1] at h
        simp (config := { maxSteps := 4000000 }) only [go_sem, Nat.reduceLT, Nat.reduceEqDiff, Nat.reduceAdd, Nat.reduceBEq, Nat.reduceMul, Nat.reduceSub, reduceIte, Nat.reduceLeDiff, reduceCtorEq, Int.reduceNeg, Int.reduceToNat, Int.reduceEq, Int.reduceNe, Int.reduceLT, Int.reduceLE, hr1, hc2, ha3, hi6']
        repeat' ((with_reducible refine and_bar ?_ ?_); kernel_rfl)
        refine W_cond_f rfl ?_
        simp (config := { maxSteps := 4000000 }) only [go_sem, Nat.reduceLT, Nat.reduceEqDiff, Nat.reduceAdd, Nat.reduceBEq, Nat.reduceMul, Nat.reduceSub, reduceIte, Nat.reduceLeDiff, reduceCtorEq, Int.reduceNeg, Int.reduceToNat, Int.reduceEq, Int.reduceNe, Int.reduceLT, Int.reduceLE, hr1, hc2, ha3, hi6', FinW_ret]
        repeat' ((with_reducible refine and_bar ?_ ?_); kernel_rfl)
        obtain rfl := Option.some.inj h
        exact ⟨_, rfl, (by repeat' (first | exact ROk.refl _ | exact ROk.nil _ | ((refine ROk.of _ ?_ ?_); (focus ((repeat' (first | exact Le.refl _ | exact LeL.nil | exact Le.nils | exact LeLL.refl _ | refine LeLL.mapAppend ?_ ?_ | refine LeLL.cons ?_ ?_ | refine Le.sl ?_ | refine Le.tup ?_ | refine Le.agg ?_ | refine LeL.cons ?_ ?_)); done)); (focus ((repeat' (first | exact NoOwn.val _ | exact NoOwn.sl _ _ _ _ | refine NoOwn.tup ?_ | refine NoOwn.agg ?_ | exact noOwn_nil | refine noOwn_cons ?_ ?_)); done))) | ((refine ROk.own ?_ ?_); (focus ((repeat' (first | exact Le.refl _ | exact LeL.nil | exact Le.nils | exact LeLL.refl _ | refine LeLL.mapAppend ?_ ?_ | refine LeLL.cons ?_ ?_ | refine Le.sl ?_ | refine Le.tup ?_ | refine Le.agg ?_ | refine LeL.cons ?_ ?_)); done)); (focus ((first | exact RowOk.noOwn Load.row_ok _ | exact RowOk.noOwn LoadMove.row_ok _); done))) | refine ROk.agg rfl ?_ | refine ROk.tup rfl ?_ | exact rok_nil | refine rok_cons ?_ ?_)), (by (repeat' (first | exact PureC.val _ | refine PureC.tup ?_ | refine PureC.agg ?_ | exact pure_nil | refine pure_cons ?_ ?_ | refine PureC.sl ?_ | exact pure_rows Load.row_pure _ | exact pure_rows LoadMove.row_pure _ |  exact pure_rows_nil | refine pure_rows_append ?_ ?_ | refine pure_rows_cons ?_ ?_)))⟩
def fs_ref35_Apply (N : Nat) : FnS := { own := [], pure := true, fn := fun cs => match cs with
  | [c0, c1] => ((decL 2 Load.dec) c0).bind fun qc0 => ((decL 2 LoadMove.dec) c1).bind fun qc1 => (ref35_Apply N qc0 qc1).map fun r => .tup [.sl false none 2 none (r.1.map Load.row), .val (.int .i64 r.2)]
  | _ => none }
theorem fs_ref35_Apply_own (N : Nat) : (fs_ref35_Apply N).own = [] := rfl
theorem fs_ref35_Apply_pure (N : Nat) : (fs_ref35_Apply N).pure = true := rfl
attribute [go_sem] fs_ref35_Apply fs_ref35_Apply_own fs_ref35_Apply_pure
theorem fs_ref35_Apply_ok (N : Nat) : FSOk Try.prog 12 (fs_ref35_Apply N) := by
  refine ⟨fun cs r h => ?_, fun h => by cases h⟩
  simp only [fs_ref35_Apply] at h
  split at h
  · simp only [Option.bind_eq_some_iff, Option.map_eq_some_iff] at h
    obtain ⟨q0, h0, q1, h1, r', hr, rfl⟩ := h
    exact (((w_ref35_Apply N q0 q1 r' hr).args (LeL.cons (decL_le Load.dec_le h0) (LeL.cons (decL_le LoadMove.dec_le h1) (LeL.nil)))).res (by repeat' (first | exact ROk.refl _ | exact ROk.nil _ | ((refine ROk.of _ ?_ ?_); (focus ((repeat' (first | exact Le.refl _ | exact LeL.nil | exact Le.nils | exact LeLL.refl _ | refine LeLL.mapAppend ?_ ?_ | refine LeLL.cons ?_ ?_ | refine Le.sl ?_ | refine Le.tup ?_ | refine Le.agg ?_ | refine LeL.cons ?_ ?_)); done)); (focus ((repeat' (first | exact NoOwn.val _ | exact NoOwn.sl _ _ _ _ | refine NoOwn.tup ?_ | refine NoOwn.agg ?_ | exact noOwn_nil | refine noOwn_cons ?_ ?_)); done))) | ((refine ROk.own ?_ ?_); (focus ((repeat' (first | exact Le.refl _ | exact LeL.nil | exact Le.nils | exact LeLL.refl _ | refine LeLL.mapAppend ?_ ?_ | refine LeLL.cons ?_ ?_ | refine Le.sl ?_ | refine Le.tup ?_ | refine Le.agg ?_ | refine LeL.cons ?_ ?_)); done)); (focus ((first | exact RowOk.noOwn Load.row_ok _ | exact RowOk.noOwn LoadMove.row_ok _); done))) | refine ROk.agg rfl ?_ | refine ROk.tup rfl ?_ | exact rok_nil | refine rok_cons ?_ ?_)))
  · cases h

def fso_ref35_Apply (N : Nat) : FnS := { own := [], pure := true, fn := fun cs => match cs with
  | [c0, c1] => ((decL 2 Load.dec) c0).bind fun qc0 => ((decL 2 LoadMove.dec) c1).bind fun qc1 => (ref35_Apply N qc0 qc1).map fun r => .tup [.sl true none 2 none (r.1.map Load.row), .val (.int .i64 r.2)]
  | _ => none }
theorem fso_ref35_Apply_own (N : Nat) : (fso_ref35_Apply N).own = [] := rfl
theorem fso_ref35_Apply_pure (N : Nat) : (fso_ref35_Apply N).pure = true := rfl
attribute [go_sem] fso_ref35_Apply fso_ref35_Apply_own fso_ref35_Apply_pure
theorem fso_ref35_Apply_ok (N : Nat) : FSOk Try.prog 12 (fso_ref35_Apply N) := by
  refine ⟨fun cs r h => ?_, fun h => by cases h⟩
  simp only [fso_ref35_Apply] at h
  split at h
  · simp only [Option.bind_eq_some_iff, Option.map_eq_some_iff] at h
    obtain ⟨q0, h0, q1, h1, r', hr, rfl⟩ := h
    exact ((w_ref35_Apply N q0 q1 r' hr).args (LeL.cons (decL_le Load.dec_le h0) (LeL.cons (decL_le LoadMove.dec_le h1) (LeL.nil))))
  · cases h

end Go.Proofs.Ytpbloecedgddlaa
end

section
set_option linter.unusedSimpArgs false
set_option linter.unusedVariables false
set_option maxRecDepth 100000
namespace Go.Proofs.Ytpbloecedgddlaa
open Go Go.Proofs Go.Abs
noncomputable def E_ref35_SameLoads (N : Nat) : Env := { T := tiOf Try.prog, G := fun d f => none }
theorem E_ref35_SameLoads_T (N : Nat) : (E_ref35_SameLoads N).T = tiOf Try.prog := rfl
theorem E_ref35_SameLoads_ok (N : Nat) : GOk Try.prog { T := tiOf Try.prog, G := (E_ref35_SameLoads N).G } := by
  intro d f fs hfs
  cases hfs
theorem fo_ref35_SameLoads : FunOk Try.prog 13 Try.f13 Try.f13.body.get! := ⟨Try.func13, rfl, by decide, by kernel_rfl⟩
attribute [go_sem] E_ref35_SameLoads_T
set_option maxHeartbeats 4000000 in
theorem w_ref35_SameLoads (N : Nat) (a0 : (List Load)) (a1 : (List Load)) (r : Bool) (h : ref35_SameLoads N a0 a1 = some r) : Con Try.prog 13 [] true [.sl false none 2 none (a0.map Load.row), .sl false none 2 none (a1.map Load.row)] (.val (.bool r)) := by
  refine fun_ok2 (E := E_ref35_SameLoads N) (tiOf_ok Try.prog _) (E_ref35_SameLoads_ok N) mix fo_ref35_SameLoads (Nat.le_of_ble_eq_true rfl) ?_
  intro _
  rw [entry_tab (by simp)]
  rw [show entryF [] [.sl false none 2 none (a0.map Load.row), .sl false none 2 none (a1.map Load.row)] = (updT (updT deadT 0 (.sl false none 2 none (a0.map Load.row))) 1 (.sl false none 2 none (a1.map Load.row))) from by funext t; match t with | 0 => rfl | 1 => rfl | t + 2 => rfl]
  apply W_start
  simp only [Try.f13, Option.get!, R0_RZ]
  unfold ref35_SameLoads at h
  simp (config := { maxSteps := 4000000 }) only [go_sem, Nat.reduceLT, Nat.reduceEqDiff, Nat.reduceAdd, Nat.reduceBEq, Nat.reduceMul, Nat.reduceSub, reduceIte, Nat.reduceLeDiff, reduceCtorEq, Int.reduceNeg, Int.reduceToNat, Int.reduceEq, Int.reduceNe, Int.reduceLT, Int.reduceLE]
  repeat' ((with_reducible refine and_bar ?_ ?_); kernel_rfl)
  refine W_cond_ndec rfl (fun hc1 => ?_) (fun hc1 => ?_)
  · have hc1d := decide_eq_false hc1
    first | rw [if_neg hc1] at h | rw [if_neg (ne_true_of_eq_false hc1d)] at h | simp only [hc1d, Bool.not_true, Bool.not_false, Bool.false_eq_true, if_true, if_false] at h
    simp (config := { maxSteps := 4000000 }) only [go_sem, Nat.reduceLT, Nat.reduceEqDiff, Nat.reduceAdd, Nat.reduceBEq, Nat.reduceMul, Nat.reduceSub, reduceIte, Nat.reduceLeDiff, reduceCtorEq, Int.reduceNeg, Int.reduceToNat, Int.reduceEq, Int.reduceNe, Int.reduceLT, Int.reduceLE, hc1d, FinW_ret]
    repeat' ((with_reducible refine and_bar ?_ ?_); kernel_rfl)
    obtain rfl := Option.some.inj h
    exact ⟨_, rfl, (by exact ROk.refl _), (by repeat' (first | exact PureC.val _ | refine PureC.tup ?_ | refine PureC.agg ?_ | exact pure_nil | refine pure_cons ?_ ?_))⟩
  · have hc1d := decide_eq_true hc1
    first | rw [if_pos hc1] at h | rw [if_pos hc1d] at h | simp only [hc1d, Bool.not_true, Bool.not_false, Bool.false_eq_true, if_true, if_false] at h
    simp (config := { maxSteps := 4000000 }) only [go_sem, Nat.reduceLT, Nat.reduceEqDiff, Nat.reduceAdd, Nat.reduceBEq, Nat.reduceMul, Nat.reduceSub, reduceIte, Nat.reduceLeDiff, reduceCtorEq, Int.reduceNeg, Int.reduceToNat, Int.reduceEq, Int.reduceNe, Int.reduceLT, Int.reduceLE, hc1d]
    repeat' ((with_reducible refine and_bar ?_ ?_); kernel_rfl)
    refine W_real fun hreal3 => ?_
    have hl2 := hreal3.lenT 0 (by decide) (by simp only [go_sem, Nat.reduceLT, Nat.reduceEqDiff, Nat.reduceAdd, Nat.reduceBEq, Nat.reduceMul, Nat.reduceSub, reduceIte, Nat.reduceLeDiff, reduceCtorEq, Int.reduceNeg, Int.reduceToNat, Int.reduceEq, Int.reduceNe, Int.reduceLT, Int.reduceLE, Bool.or_self, List.length_set, Int.natCast_zero, Int.cast_ofNat_Int, hc1d]; rfl)
    rw [List.length_map] at hl2
    refine W_range (fun (v3 : Nat) (b : Unit) => ⟨tab 26 (updT (updT (updT deadT 0 (.sl false none 2 none (a0.map Load.row))) 1 (.sl false none 2 none (a1.map Load.row))) 5 (.val (.int .i64 ((v3 : Nat) : Int)))), RZ⟩) () h ?_ ?_
    · refine weak_roots ?_ ?_
      · (repeat' (first | exact weakX_nil | refine weakX_cons ?_ ?_)) <;> (first | rfl | simp only [go_sem, Nat.reduceLT, Nat.reduceEqDiff, Nat.reduceAdd, Nat.reduceBEq, Nat.reduceMul, Nat.reduceSub, reduceIte, Nat.reduceLeDiff, reduceCtorEq, Int.reduceNeg, Int.reduceToNat, Int.reduceEq, Int.reduceNe, Int.reduceLT, Int.reduceLE, Bool.or_self, List.length_set, Int.natCast_zero, Int.cast_ofNat_Int, hc1d])
      · (repeat' (first | exact weakR_nil | refine weakR_cons ?_ ?_ ?_)) <;> (first | rfl | simp only [go_sem, Nat.reduceLT, Nat.reduceEqDiff, Nat.reduceAdd, Nat.reduceBEq, Nat.reduceMul, Nat.reduceSub, reduceIte, Nat.reduceLeDiff, reduceCtorEq, Int.reduceNeg, Int.reduceToNat, Int.reduceEq, Int.reduceNe, Int.reduceLT, Int.reduceLE, Bool.or_self, List.length_set, Int.natCast_zero, Int.cast_ofNat_Int, hc1d])
    · rintro v3 ⟨⟩ hi4 h -
      rcases drop_cases a0 v3 hi4 with ⟨x6, hi4', hx5, hd7⟩ | ⟨hi4', _, hd7⟩
      · rw [hd7] at h
        simp only [ref35_SameLoads_L1] at h
        have hw6 := wrap_succ hi4' hl2
        simp (config := { maxSteps := 4000000 }) only [go_sem, Nat.reduceLT, Nat.reduceEqDiff, Nat.reduceAdd, Nat.reduceBEq, Nat.reduceMul, Nat.reduceSub, reduceIte, Nat.reduceLeDiff, reduceCtorEq, Int.reduceNeg, Int.reduceToNat, Int.reduceEq, Int.reduceNe, Int.reduceLT, Int.reduceLE, hc1d, hx5, hi4', hw6]
        repeat' ((with_reducible refine and_bar ?_ ?_); kernel_rfl)
        refine W_cond_t rfl ?_
        obtain ⟨x1, hb8, hx9, h⟩ := gx_some h
        try simp only [Int.toNat_natCast, Int.reduceToNat, Int.toNat_zero] at hx9
        try simp only [Int.ofNat_lt, Int.natCast_nonneg, true_and] at hb8
        simp (config := { maxSteps := 4000000 }) only [go_sem, Nat.reduceLT, Nat.reduceEqDiff, Nat.reduceAdd, Nat.reduceBEq, Nat.reduceMul, Nat.reduceSub, reduceIte, Nat.reduceLeDiff, reduceCtorEq, Int.reduceNeg, Int.reduceToNat, Int.reduceEq, Int.reduceNe, Int.reduceLT, Int.reduceLE, hc1d, hx5, hi4', hw6, hb8, hx9]
        repeat' ((with_reducible refine and_bar ?_ ?_); kernel_rfl)
        refine W_cond_nbool rfl (fun hc10 => ?_) (fun hc10 => ?_)
        · first | rw [if_neg (ne_true_of_eq_false hc10)] at h | simp only [hc10, Bool.not_true, Bool.not_false, Bool.false_eq_true, if_true, if_false] at h
          simp (config := { maxSteps := 4000000 }) only [go_sem, Nat.reduceLT, Nat.reduceEqDiff, Nat.reduceAdd, Nat.reduceBEq, Nat.reduceMul, Nat.reduceSub, reduceIte, Nat.reduceLeDiff, reduceCtorEq, Int.reduceNeg, Int.reduceToNat, Int.reduceEq, Int.reduceNe, Int.reduceLT, Int.reduceLE, hc1d, hx5, hi4', hw6, hb8, hx9, hc10, FinW_ret]
          repeat' ((with_reducible refine and_bar ?_ ?_); kernel_rfl)
          obtain rfl := Option.some.inj h
          exact ⟨_, rfl, (by exact ROk.refl _), (by repeat' (first | exact PureC.val _ | refine PureC.tup ?_ | refine PureC.agg ?_ | exact pure_nil | refine pure_cons ?_ ?_))⟩
        · first | rw [if_pos hc10] at h | simp only [hc10, Bool.not_true, Bool.not_false, Bool.false_eq_true, if_true, if_false] at h
          simp (config := { maxSteps := 4000000 }) only [go_sem, Nat.reduceLT, Nat.reduceEqDiff, Nat.reduceAdd, Nat.reduceBEq, Nat.reduceMul, Nat.reduceSub, reduceIte, Nat.reduceLeDiff, reduceCtorEq, Int.reduceNeg, Int.reduceToNat, Int.reduceEq, Int.reduceNe, Int.reduceLT, Int.reduceLE, hc1d, hx5, hi4', hw6, hb8, hx9, hc10]
          repeat' ((with_reducible refine and_bar ?_ ?_); kernel_rfl)
          first | refine ⟨(), ?_, h⟩ | refine ⟨hi4', (), ?_, h⟩
          refine weak_roots ?_ ?_
          · (repeat' (first | exact weakX_nil | refine weakX_cons ?_ ?_)) <;> (first | rfl | simp only [go_sem, Nat.reduceLT, Nat.reduceEqDiff, Nat.reduceAdd, Nat.reduceBEq, Nat.reduceMul, Nat.reduceSub, reduceIte, Nat.reduceLeDiff, reduceCtorEq, Int.reduceNeg, Int.reduceToNat, Int.reduceEq, Int.reduceNe, Int.reduceLT, Int.reduceLE, Bool.or_self, List.length_set, Int.natCast_zero, Int.cast_ofNat_Int, hc1d, hx5, hi4', hw6, hb8, hx9, hc10])
          · (repeat' (first | exact weakR_nil | refine weakR_cons ?_ ?_ ?_)) <;> (first | rfl | simp only [go_sem, Nat.reduceLT, Nat.reduceEqDiff, Nat.reduceAdd, Nat.reduceBEq, Nat.reduceMul, Nat.reduceSub, reduceIte, Nat.reduceLeDiff, reduceCtorEq, Int.reduceNeg, Int.reduceToNat, Int.reduceEq, Int.reduceNe, Int.reduceLT, Int.reduceLE, Bool.or_self, List.length_set, Int.natCast_zero, Int.cast_ofNat_Int, hc1d, hx5, hi4', hw6, hb8, hx9, hc10])
      · rw [hd7] at h
        simp only [ref35_SameLoads_L1] at h
        simp (config := { maxSteps := 4000000 }) only [go_sem, Nat.reduceLT, Nat.reduceEqDiff, Nat.reduceAdd, Nat.reduceBEq, Nat.reduceMul, Nat.reduceSub, reduceIte, Nat.reduceLeDiff, reduceCtorEq, Int.reduceNeg, Int.reduceToNat, Int.reduceEq, Int.reduceNe, Int.reduceLT, Int.reduceLE, hc1d, hi4']
        repeat' ((with_reducible refine and_bar ?_ ?_); kernel_rfl)
        refine W_cond_f rfl ?_
        simp (config := { maxSteps := 4000000 }) only [go_sem, Nat.reduceLT, Nat.reduceEqDiff, Nat.reduceAdd, Nat.reduceBEq, Nat.reduceMul, Nat.reduceSub, reduceIte, Nat.reduceLeDiff, reduceCtorEq, Int.reduceNeg, Int.reduceToNat, Int.reduceEq, Int.reduceNe, Int.reduceLT, Int.reduceLE, hc1d, hi4', FinW_ret]
        repeat' ((with_reducible refine and_bar ?_ ?_); kernel_rfl)
        obtain rfl := Option.some.inj h
        exact ⟨_, rfl, (by exact ROk.refl _), (by repeat' (first | exact PureC.val _ | refine PureC.tup ?_ | refine PureC.agg ?_ | exact pure_nil | refine pure_cons ?_ ?_))⟩
def fs_ref35_SameLoads (N : Nat) : FnS := { own := [], pure := true, fn := fun cs => match cs with
  | [c0, c1] => ((decL 2 Load.dec) c0).bind fun qc0 => ((decL 2 Load.dec) c1).bind fun qc1 => (ref35_SameLoads N qc0 qc1).map fun r => .val (.bool r)
  | _ => none }
theorem fs_ref35_SameLoads_own (N : Nat) : (fs_ref35_SameLoads N).own = [] := rfl
theorem fs_ref35_SameLoads_pure (N : Nat) : (fs_ref35_SameLoads N).pure = true := rfl
attribute [go_sem] fs_ref35_SameLoads fs_ref35_SameLoads_own fs_ref35_SameLoads_pure
theorem fs_ref35_SameLoads_ok (N : Nat) : FSOk Try.prog 13 (fs_ref35_SameLoads N) := by
  refine ⟨fun cs r h => ?_, fun h => by cases h⟩
  simp only [fs_ref35_SameLoads] at h
  split at h
  · simp only [Option.bind_eq_some_iff, Option.map_eq_some_iff] at h
    obtain ⟨q0, h0, q1, h1, r', hr, rfl⟩ := h
    exact ((w_ref35_SameLoads N q0 q1 r' hr).args (LeL.cons (decL_le Load.dec_le h0) (LeL.cons (decL_le Load.dec_le h1) (LeL.nil))))
  · cases h

end Go.Proofs.Ytpbloecedgddlaa
end

section
set_option linter.unusedSimpArgs false
set_option linter.unusedVariables false
set_option maxRecDepth 100000
namespace Go.Proofs.Ytpbloecedgddlaa
open Go Go.Proofs Go.Abs
noncomputable def E_ref35_Least (N : Nat) : Env := { T := tiOf Try.prog, G := fun d f => if d = 4 ∧ f = 15 then some (fs_ref35_Valid N) else if d = 8 ∧ f = 32 then some (fs_ref35_least N) else none }
theorem E_ref35_Least_T (N : Nat) : (E_ref35_Least N).T = tiOf Try.prog := rfl
theorem E_ref35_Least_G0 (N : Nat) : (E_ref35_Least N).G 4 15 = some (fs_ref35_Valid N) := rfl
theorem E_ref35_Least_G1 (N : Nat) : (E_ref35_Least N).G 8 32 = some (fs_ref35_least N) := rfl
theorem E_ref35_Least_ok (N : Nat) : GOk Try.prog { T := tiOf Try.prog, G := (E_ref35_Least N).G } := by
  intro d f fs hfs
  simp only [E_ref35_Least] at hfs
  by_cases hc : d = 4 ∧ f = 15
  · rw [if_pos hc] at hfs; obtain ⟨rfl, rfl⟩ := hc; obtain rfl := Option.some.inj hfs; exact fs_ref35_Valid_ok N
  rw [if_neg hc] at hfs
  by_cases hc : d = 8 ∧ f = 32
  · rw [if_pos hc] at hfs; obtain ⟨rfl, rfl⟩ := hc; obtain rfl := Option.some.inj hfs; exact fs_ref35_least_ok N
  rw [if_neg hc] at hfs
  cases hfs
theorem fo_ref35_Least : FunOk Try.prog 17 Try.f17 Try.f17.body.get! := ⟨Try.func17, rfl, by decide, by kernel_rfl⟩
attribute [go_sem] E_ref35_Least_T E_ref35_Least_G0 E_ref35_Least_G1
set_option maxHeartbeats 4000000 in
theorem w_ref35_Least (N : Nat) (a0 : (List Load)) (r : Int) (h : ref35_Least N a0 = some r) : Con Try.prog 17 [] true [.sl false none 2 none (a0.map Load.row)] (.val (.int .i64 r)) := by
  refine fun_ok2 (E := E_ref35_Least N) (tiOf_ok Try.prog _) (E_ref35_Least_ok N) mix fo_ref35_Least (Nat.le_of_ble_eq_true rfl) ?_
  intro _
  rw [entry_tab (by simp)]
  rw [show entryF [] [.sl false none 2 none (a0.map Load.row)] = (updT deadT 0 (.sl false none 2 none (a0.map Load.row))) from by funext t; match t with | 0 => rfl | t + 1 => rfl]
  apply W_start
  simp only [Try.f17, Option.get!, R0_RZ]
  unfold ref35_Least at h
  obtain ⟨r1, hr1, h⟩ := Option.bind_eq_some_iff.1 h
  simp (config := { maxSteps := 4000000 }) only [go_sem, Nat.reduceLT, Nat.reduceEqDiff, Nat.reduceAdd, Nat.reduceBEq, Nat.reduceMul, Nat.reduceSub, reduceIte, Nat.reduceLeDiff, reduceCtorEq, Int.reduceNeg, Int.reduceToNat, Int.reduceEq, Int.reduceNe, Int.reduceLT, Int.reduceLE, hr1]
  refine W_cond_nbool rfl (fun hc2 => ?_) (fun hc2 => ?_)
  · first | rw [if_neg (ne_true_of_eq_false hc2)] at h | simp only [hc2, Bool.not_true, Bool.not_false, Bool.false_eq_true, if_true, if_false] at h
    simp (config := { maxSteps := 4000000 }) only [go_sem, Nat.reduceLT, Nat.reduceEqDiff, Nat.reduceAdd, Nat.reduceBEq, Nat.reduceMul, Nat.reduceSub, reduceIte, Nat.reduceLeDiff, reduceCtorEq, Int.reduceNeg, Int.reduceToNat, Int.reduceEq, Int.reduceNe, Int.reduceLT, Int.reduceLE, hr1, hc2, FinW_ret]
    obtain rfl := Option.some.inj h
    exact ⟨_, rfl, (by exact ROk.refl _), (by repeat' (first | exact PureC.val _ | refine PureC.tup ?_ | refine PureC.agg ?_ | exact pure_nil | refine pure_cons ?_ ?_))⟩
  · first | rw [if_pos hc2] at h | simp only [hc2, Bool.not_true, Bool.not_false, Bool.false_eq_true, if_true, if_false] at h
    obtain ⟨r2, hr3, h⟩ := Option.bind_eq_some_iff.1 h
    obtain ⟨x3, hb4, hx5, h⟩ := gx_some h
    simp (config := { maxSteps := 4000000 }) only [go_sem, Nat.reduceLT, Nat.reduceEqDiff, Nat.reduceAdd, Nat.reduceBEq, Nat.reduceMul, Nat.reduceSub, reduceIte, Nat.reduceLeDiff, reduceCtorEq, Int.reduceNeg, Int.reduceToNat, Int.reduceEq, Int.reduceNe, Int.reduceLT, Int.reduceLE, hr1, hc2, hr3, hb4, hx5, FinW_ret]
    obtain rfl := Option.some.inj h
    exact ⟨_, rfl, (by exact ROk.refl _), (by repeat' (first | exact PureC.val _ | refine PureC.tup ?_ | refine PureC.agg ?_ | exact pure_nil | refine pure_cons ?_ ?_))⟩
def fs_ref35_Least (N : Nat) : FnS := { own := [], pure := true, fn := fun cs => match cs with
  | [c0] => ((decL 2 Load.dec) c0).bind fun qc0 => (ref35_Least N qc0).map fun r => .val (.int .i64 r)
  | _ => none }
theorem fs_ref35_Least_own (N : Nat) : (fs_ref35_Least N).own = [] := rfl
theorem fs_ref35_Least_pure (N : Nat) : (fs_ref35_Least N).pure = true := rfl
attribute [go_sem] fs_ref35_Least fs_ref35_Least_own fs_ref35_Least_pure
theorem fs_ref35_Least_ok (N : Nat) : FSOk Try.prog 17 (fs_ref35_Least N) := by
  refine ⟨fun cs r h => ?_, fun h => by cases h⟩
  simp only [fs_ref35_Least] at h
  split at h
  · simp only [Option.bind_eq_some_iff, Option.map_eq_some_iff] at h
    obtain ⟨q0, h0, r', hr, rfl⟩ := h
    exact ((w_ref35_Least N q0 r' hr).args (LeL.cons (decL_le Load.dec_le h0) (LeL.nil)))
  · cases h

end Go.Proofs.Ytpbloecedgddlaa
end

section
set_option linter.unusedSimpArgs false
set_option linter.unusedVariables false
set_option maxRecDepth 100000
namespace Go.Proofs.Ytpbloecedgddlaa
open Go Go.Proofs Go.Abs
noncomputable def E_ref35_most (N : Nat) : Env := { T := tiOf Try.prog, G := fun d f => none }
theorem E_ref35_most_T (N : Nat) : (E_ref35_most N).T = tiOf Try.prog := rfl
theorem E_ref35_most_ok (N : Nat) : GOk Try.prog { T := tiOf Try.prog, G := (E_ref35_most N).G } := by
  intro d f fs hfs
  cases hfs
theorem fo_ref35_most : FunOk Try.prog 37 Try.f37 Try.f37.body.get! := ⟨Try.func37, rfl, by decide, by kernel_rfl⟩
attribute [go_sem] E_ref35_most_T
set_option maxHeartbeats 4000000 in
theorem w_ref35_most (N : Nat) (a0 : (List Load)) (r : Int) (h : ref35_most N a0 = some r) : Con Try.prog 37 [] true [.sl false none 2 none (a0.map Load.row)] (.val (.int .i64 r)) := by
  refine fun_ok2 (E := E_ref35_most N) (tiOf_ok Try.prog _) (E_ref35_most_ok N) mix fo_ref35_most (Nat.le_of_ble_eq_true rfl) ?_
  intro _
  rw [entry_tab (by simp)]
  rw [show entryF [] [.sl false none 2 none (a0.map Load.row)] = (updT deadT 0 (.sl false none 2 none (a0.map Load.row))) from by funext t; match t with | 0 => rfl | t + 1 => rfl]
  apply W_start
  simp only [Try.f37, Option.get!, R0_RZ]
  unfold ref35_most at h
  simp (config := { maxSteps := 4000000 }) only [go_sem, Nat.reduceLT, Nat.reduceEqDiff, Nat.reduceAdd, Nat.reduceBEq, Nat.reduceMul, Nat.reduceSub, reduceIte, Nat.reduceLeDiff, reduceCtorEq, Int.reduceNeg, Int.reduceToNat, Int.reduceEq, Int.reduceNe, Int.reduceLT, Int.reduceLE]
  repeat' ((with_reducible refine and_bar ?_ ?_); kernel_rfl)
  refine W_real fun hreal2 => ?_
  have hl1 := hreal2.lenT 0 (by decide) (by simp only [go_sem, Nat.reduceLT, Nat.reduceEqDiff, Nat.reduceAdd, Nat.reduceBEq, Nat.reduceMul, Nat.reduceSub, reduceIte, Nat.reduceLeDiff, reduceCtorEq, Int.reduceNeg, Int.reduceToNat, Int.reduceEq, Int.reduceNe, Int.reduceLT, Int.reduceLE, Bool.or_self, List.length_set, Int.natCast_zero, Int.cast_ofNat_Int]; rfl)
  rw [List.length_map] at hl1
  refine W_count (fun (v3 : Nat) (b : Int) => ⟨tab 24 (updT (updT (updT deadT 0 (.sl false none 2 none (a0.map Load.row))) 3 (.val (.int .i64 b))) 4 (.val (.int .i64 ((v3 : Nat) : Int)))), RZ⟩) 0 h ?_ ?_
  · refine weak_roots ?_ ?_
    · (repeat' (first | exact weakX_nil | refine weakX_cons ?_ ?_)) <;> (first | rfl | simp only [go_sem, Nat.reduceLT, Nat.reduceEqDiff, Nat.reduceAdd, Nat.reduceBEq, Nat.reduceMul, Nat.reduceSub, reduceIte, Nat.reduceLeDiff, reduceCtorEq, Int.reduceNeg, Int.reduceToNat, Int.reduceEq, Int.reduceNe, Int.reduceLT, Int.reduceLE, Bool.or_self, List.length_set, Int.natCast_zero, Int.cast_ofNat_Int])
    · (repeat' (first | exact weakR_nil | refine weakR_cons ?_ ?_ ?_)) <;> (first | rfl | simp only [go_sem, Nat.reduceLT, Nat.reduceEqDiff, Nat.reduceAdd, Nat.reduceBEq, Nat.reduceMul, Nat.reduceSub, reduceIte, Nat.reduceLeDiff, reduceCtorEq, Int.reduceNeg, Int.reduceToNat, Int.reduceEq, Int.reduceNe, Int.reduceLT, Int.reduceLE, Bool.or_self, List.length_set, Int.natCast_zero, Int.cast_ofNat_Int])
  · rintro v3 v2 _ h -
    rcases count_cases a0.length v3 with ⟨hi3', hd6⟩ | ⟨hi3', hd6⟩
    · rw [hd6] at h
      simp only [ref35_most_L1] at h
      have hw5 := wrap_succ hi3' hl1
      simp (config := { maxSteps := 4000000 }) only [go_sem, Nat.reduceLT, Nat.reduceEqDiff, Nat.reduceAdd, Nat.reduceBEq, Nat.reduceMul, Nat.reduceSub, reduceIte, Nat.reduceLeDiff, reduceCtorEq, Int.reduceNeg, Int.reduceToNat, Int.reduceEq, Int.reduceNe, Int.reduceLT, Int.reduceLE, hi3', hw5]
      repeat' ((with_reducible refine and_bar ?_ ?_); kernel_rfl)
      refine W_cond_t rfl ?_
      obtain ⟨x1, hb7, hx8, h⟩ := gx_some h
      try simp only [Int.toNat_natCast, Int.reduceToNat, Int.toNat_zero] at hx8
      try simp only [Int.ofNat_lt, Int.natCast_nonneg, true_and] at hb7
      obtain ⟨x2, hb9, hx10, h⟩ := gx_some h
      simp (config := { maxSteps := 4000000 }) only [go_sem, Nat.reduceLT, Nat.reduceEqDiff, Nat.reduceAdd, Nat.reduceBEq, Nat.reduceMul, Nat.reduceSub, reduceIte, Nat.reduceLeDiff, reduceCtorEq, Int.reduceNeg, Int.reduceToNat, Int.reduceEq, Int.reduceNe, Int.reduceLT, Int.reduceLE, hi3', hw5, hb7, hx8, hb9, hx10]
      repeat' ((with_reducible refine and_bar ?_ ?_); kernel_rfl)
      refine W_cond_dec rfl (fun hc11 => ?_) (fun hc11 => ?_)
      · have hc11d := decide_eq_true hc11
        first | rw [if_pos hc11] at h | rw [if_pos hc11d] at h | simp only [hc11d, Bool.not_true, Bool.not_false, Bool.false_eq_true, if_true, if_false] at h
        simp (config := { maxSteps := 4000000 }) only [go_sem, Nat.reduceLT, Nat.reduceEqDiff, Nat.reduceAdd, Nat.reduceBEq, Nat.reduceMul, Nat.reduceSub, reduceIte, Nat.reduceLeDiff, reduceCtorEq, Int.reduceNeg, Int.reduceToNat, Int.reduceEq, Int.reduceNe, Int.reduceLT, Int.reduceLE, hi3', hw5, hb7, hx8, hb9, hx10, hc11d]
        repeat' ((with_reducible refine and_bar ?_ ?_); kernel_rfl)
        first | refine ⟨((v3 : Nat) : Int), ?_, h⟩ | refine ⟨hi3', ((v3 : Nat) : Int), ?_, h⟩
        refine weak_roots ?_ ?_
        · (repeat' (first | exact weakX_nil | refine weakX_cons ?_ ?_)) <;> (first | rfl | simp only [go_sem, Nat.reduceLT, Nat.reduceEqDiff, Nat.reduceAdd, Nat.reduceBEq, Nat.reduceMul, Nat.reduceSub, reduceIte, Nat.reduceLeDiff, reduceCtorEq, Int.reduceNeg, Int.reduceToNat, Int.reduceEq, Int.reduceNe, Int.reduceLT, Int.reduceLE, Bool.or_self, List.length_set, Int.natCast_zero, Int.cast_ofNat_Int, hi3', hw5, hb7, hx8, hb9, hx10, hc11d])
        · (repeat' (first | exact weakR_nil | refine weakR_cons ?_ ?_ ?_)) <;> (first | rfl | simp only [go_sem, Nat.reduceLT, Nat.reduceEqDiff, Nat.reduceAdd, Nat.reduceBEq, Nat.reduceMul, Nat.reduceSub, reduceIte, Nat.reduceLeDiff, reduceCtorEq, Int.reduceNeg, Int.reduceToNat, Int.reduceEq, Int.reduceNe, Int.reduceLT, Int.reduceLE, Bool.or_self, List.length_set, Int.natCast_zero, Int.cast_ofNat_Int, hi3', hw5, hb7, hx8, hb9, hx10, hc11d])
      · have hc11d := decide_eq_false hc11
        first | rw [if_neg hc11] at h | rw [if_neg (ne_true_of_eq_false hc11d)] at h | simp only [hc11d, Bool.not_true, Bool.not_false, Bool.false_eq_true, if_true, if_false] at h
        simp (config := { maxSteps := 4000000 }) only [go_sem, Nat.reduceLT, Nat.reduceEqDiff, Nat.reduceAdd, Nat.reduceBEq, Nat.reduceMul, Nat.reduceSub, reduceIte, Nat.reduceLeDiff, reduceCtorEq, Int.reduceNeg, Int.reduceToNat, Int.reduceEq, Int.reduceNe, Int.reduceLT, Int.reduceLE, hi3', hw5, hb7, hx8, hb9, hx10, hc11d]
        repeat' ((with_reducible refine and_bar ?_ ?_); kernel_rfl)
        first | refine ⟨v2, ?_, h⟩ | refine ⟨hi3', v2, ?_, h⟩
        refine weak_roots ?_ ?_
        · (repeat' (first | exact weakX_nil | refine weakX_cons ?_ ?_)) <;> (first | rfl | simp only [go_sem, Nat.reduceLT, Nat.reduceEqDiff, Nat.reduceAdd, Nat.reduceBEq, Nat.reduceMul, Nat.reduceSub, reduceIte, Nat.reduceLeDiff, reduceCtorEq, Int.reduceNeg, Int.reduceToNat, Int.reduceEq, Int.reduceNe, Int.reduceLT, Int.reduceLE, Bool.or_self, List.length_set, Int.natCast_zero, Int.cast_ofNat_Int, hi3', hw5, hb7, hx8, hb9, hx10, hc11d])
        · (repeat' (first | exact weakR_nil | refine weakR_cons ?_ ?_ ?_)) <;> (first | rfl | simp only [go_sem, Nat.reduceLT, Nat.reduceEqDiff, Nat.reduceAdd, Nat.reduceBEq, Nat.reduceMul, Nat.reduceSub, reduceIte, Nat.reduceLeDiff, reduceCtorEq, Int.reduceNeg, Int.reduceToNat, Int.reduceEq, Int.reduceNe, Int.reduceLT, Int.reduceLE, Bool.or_self, List.length_set, Int.natCast_zero, Int.cast_ofNat_Int, hi3', hw5, hb7, hx8, hb9, hx10, hc11d])
    · rw [hd6] at h
      simp only [ref35_most_L1] at h
      simp (config := { maxSteps := 4000000 }) only [go_sem, Nat.reduceLT, Nat.reduceEqDiff, Nat.reduceAdd, Nat.reduceBEq, Nat.reduceMul, Nat.reduceSub, reduceIte, Nat.reduceLeDiff, reduceCtorEq, Int.reduceNeg, Int.reduceToNat, Int.reduceEq, Int.reduceNe, Int.reduceLT, Int.reduceLE, hi3']
      repeat' ((with_reducible refine and_bar ?_ ?_); kernel_rfl)
      refine W_cond_f rfl ?_
      simp (config := { maxSteps := 4000000 }) only [go_sem, Nat.reduceLT, Nat.reduceEqDiff, Nat.reduceAdd, Nat.reduceBEq, Nat.reduceMul, Nat.reduceSub, reduceIte, Nat.reduceLeDiff, reduceCtorEq, Int.reduceNeg, Int.reduceToNat, Int.reduceEq, Int.reduceNe, Int.reduceLT, Int.reduceLE, hi3', FinW_ret]
      repeat' ((with_reducible refine and_bar ?_ ?_); kernel_rfl)
      obtain rfl := Option.some.inj h
      exact ⟨_, rfl, (by exact ROk.refl _), (by repeat' (first | exact PureC.val _ | refine PureC.tup ?_ | refine PureC.agg ?_ | exact pure_nil | refine pure_cons ?_ ?_))⟩
def fs_ref35_most (N : Nat) : FnS := { own := [], pure := true, fn := fun cs => match cs with
  | [c0] => ((decL 2 Load.dec) c0).bind fun qc0 => (ref35_most N qc0).map fun r => .val (.int .i64 r)
  | _ => none }
theorem fs_ref35_most_own (N : Nat) : (fs_ref35_most N).own = [] := rfl
theorem fs_ref35_most_pure (N : Nat) : (fs_ref35_most N).pure = true := rfl
attribute [go_sem] fs_ref35_most fs_ref35_most_own fs_ref35_most_pure
theorem fs_ref35_most_ok (N : Nat) : FSOk Try.prog 37 (fs_ref35_most N) := by
  refine ⟨fun cs r h => ?_, fun h => by cases h⟩
  simp only [fs_ref35_most] at h
  split at h
  · simp only [Option.bind_eq_some_iff, Option.map_eq_some_iff] at h
    obtain ⟨q0, h0, r', hr, rfl⟩ := h
    exact ((w_ref35_most N q0 r' hr).args (LeL.cons (decL_le Load.dec_le h0) (LeL.nil)))
  · cases h

end Go.Proofs.Ytpbloecedgddlaa
end

section
set_option linter.unusedSimpArgs false
set_option linter.unusedVariables false
set_option maxRecDepth 100000
namespace Go.Proofs.Ytpbloecedgddlaa
open Go Go.Proofs Go.Abs
noncomputable def E_ref35_Most (N : Nat) : Env := { T := tiOf Try.prog, G := fun d f => if d = 4 ∧ f = 15 then some (fs_ref35_Valid N) else if d = 8 ∧ f = 37 then some (fs_ref35_most N) else none }
theorem E_ref35_Most_T (N : Nat) : (E_ref35_Most N).T = tiOf Try.prog := rfl
theorem E_ref35_Most_G0 (N : Nat) : (E_ref35_Most N).G 4 15 = some (fs_ref35_Valid N) := rfl
theorem E_ref35_Most_G1 (N : Nat) : (E_ref35_Most N).G 8 37 = some (fs_ref35_most N) := rfl
theorem E_ref35_Most_ok (N : Nat) : GOk Try.prog { T := tiOf Try.prog, G := (E_ref35_Most N).G } := by
  intro d f fs hfs
  simp only [E_ref35_Most] at hfs
  by_cases hc : d = 4 ∧ f = 15
  · rw [if_pos hc] at hfs; obtain ⟨rfl, rfl⟩ := hc; obtain rfl := Option.some.inj hfs; exact fs_ref35_Valid_ok N
  rw [if_neg hc] at hfs
  by_cases hc : d = 8 ∧ f = 37
  · rw [if_pos hc] at hfs; obtain ⟨rfl, rfl⟩ := hc; obtain rfl := Option.some.inj hfs; exact fs_ref35_most_ok N
  rw [if_neg hc] at hfs
  cases hfs
theorem fo_ref35_Most : FunOk Try.prog 19 Try.f19 Try.f19.body.get! := ⟨Try.func19, rfl, by decide, by kernel_rfl⟩
attribute [go_sem] E_ref35_Most_T E_ref35_Most_G0 E_ref35_Most_G1
set_option maxHeartbeats 4000000 in
theorem w_ref35_Most (N : Nat) (a0 : (List Load)) (r : Int) (h : ref35_Most N a0 = some r) : Con Try.prog 19 [] true [.sl false none 2 none (a0.map Load.row)] (.val (.int .i64 r)) := by
  refine fun_ok2 (E := E_ref35_Most N) (tiOf_ok Try.prog _) (E_ref35_Most_ok N) mix fo_ref35_Most (Nat.le_of_ble_eq_true rfl) ?_
  intro _
  rw [entry_tab (by simp)]
  rw [show entryF [] [.sl false none 2 none (a0.map Load.row)] = (updT deadT 0 (.sl false none 2 none (a0.map Load.row))) from by funext t; match t with | 0 => rfl | t + 1 => rfl]
  apply W_start
  simp only [Try.f19, Option.get!, R0_RZ]
  unfold ref35_Most at h
  obtain ⟨r1, hr1, h⟩ := Option.bind_eq_some_iff.1 h
  simp (config := { maxSteps := 4000000 }) only [go_sem, Nat.reduceLT, Nat.reduceEqDiff, Nat.reduceAdd, Nat.reduceBEq, Nat.reduceMul, Nat.reduceSub, reduceIte, Nat.reduceLeDiff, reduceCtorEq, Int.reduceNeg, Int.reduceToNat, Int.reduceEq, Int.reduceNe, Int.reduceLT, Int.reduceLE, hr1]
  refine W_cond_nbool rfl (fun hc2 => ?_) (fun hc2 => ?_)
  · first | rw [if_neg (ne_true_of_eq_false hc2)] at h | simp only [hc2, Bool.not_true, Bool.not_false, Bool.false_eq_true, if_true, if_false] at h
    simp (config := { maxSteps := 4000000 }) only [go_sem, Nat.reduceLT, Nat.reduceEqDiff, Nat.reduceAdd, Nat.reduceBEq, Nat.reduceMul, Nat.reduceSub, reduceIte, Nat.reduceLeDiff, reduceCtorEq, Int.reduceNeg, Int.reduceToNat, Int.reduceEq, Int.reduceNe, Int.reduceLT, Int.reduceLE, hr1, hc2, FinW_ret]
    obtain rfl := Option.some.inj h
    exact ⟨_, rfl, (by exact ROk.refl _), (by repeat' (first | exact PureC.val _ | refine PureC.tup ?_ | refine PureC.agg ?_ | exact pure_nil | refine pure_cons ?_ ?_))⟩
  · first | rw [if_pos hc2] at h | simp only [hc2, Bool.not_true, Bool.not_false, Bool.false_eq_true, if_true, if_false] at h
    obtain ⟨r2, hr3, h⟩ := Option.bind_eq_some_iff.1 h
    obtain ⟨x3, hb4, hx5, h⟩ := gx_some h
    simp (config := { maxSteps := 4000000 }) only [go_sem, Nat.reduceLT, Nat.reduceEqDiff, Nat.reduceAdd, Nat.reduceBEq, Nat.reduceMul, Nat.reduceSub, reduceIte, Nat.reduceLeDiff, reduceCtorEq, Int.reduceNeg, Int.reduceToNat, Int.reduceEq, Int.reduceNe, Int.reduceLT, Int.reduceLE, hr1, hc2, hr3, hb4, hx5, FinW_ret]
    obtain rfl := Option.some.inj h
    exact ⟨_, rfl, (by exact ROk.refl _), (by repeat' (first | exact PureC.val _ | refine PureC.tup ?_ | refine PureC.agg ?_ | exact pure_nil | refine pure_cons ?_ ?_))⟩
def fs_ref35_Most (N : Nat) : FnS := { own := [], pure := true, fn := fun cs => match cs with
  | [c0] => ((decL 2 Load.dec) c0).bind fun qc0 => (ref35_Most N qc0).map fun r => .val (.int .i64 r)
  | _ => none }
theorem fs_ref35_Most_own (N : Nat) : (fs_ref35_Most N).own = [] := rfl
theorem fs_ref35_Most_pure (N : Nat) : (fs_ref35_Most N).pure = true := rfl
attribute [go_sem] fs_ref35_Most fs_ref35_Most_own fs_ref35_Most_pure
theorem fs_ref35_Most_ok (N : Nat) : FSOk Try.prog 19 (fs_ref35_Most N) := by
  refine ⟨fun cs r h => ?_, fun h => by cases h⟩
  simp only [fs_ref35_Most] at h
  split at h
  · simp only [Option.bind_eq_some_iff, Option.map_eq_some_iff] at h
    obtain ⟨q0, h0, r', hr, rfl⟩ := h
    exact ((w_ref35_Most N q0 r' hr).args (LeL.cons (decL_le Load.dec_le h0) (LeL.nil)))
  · cases h

end Go.Proofs.Ytpbloecedgddlaa
end

section
set_option linter.unusedSimpArgs false
set_option linter.unusedVariables false
set_option maxRecDepth 100000
namespace Go.Proofs.Ytpbloecedgddlaa
open Go Go.Proofs Go.Abs
noncomputable def E_ref35_Spread (N : Nat) : Env := { T := tiOf Try.prog, G := fun d f => if d = 4 ∧ f = 15 then some (fs_ref35_Valid N) else if d = 8 ∧ f = 37 then some (fs_ref35_most N) else if d = 14 ∧ f = 32 then some (fs_ref35_least N) else none }
theorem E_ref35_Spread_T (N : Nat) : (E_ref35_Spread N).T = tiOf Try.prog := rfl
theorem E_ref35_Spread_G0 (N : Nat) : (E_ref35_Spread N).G 4 15 = some (fs_ref35_Valid N) := rfl
theorem E_ref35_Spread_G1 (N : Nat) : (E_ref35_Spread N).G 8 37 = some (fs_ref35_most N) := rfl
theorem E_ref35_Spread_G2 (N : Nat) : (E_ref35_Spread N).G 14 32 = some (fs_ref35_least N) := rfl
theorem E_ref35_Spread_ok (N : Nat) : GOk Try.prog { T := tiOf Try.prog, G := (E_ref35_Spread N).G } := by
  intro d f fs hfs
  simp only [E_ref35_Spread] at hfs
  by_cases hc : d = 4 ∧ f = 15
  · rw [if_pos hc] at hfs; obtain ⟨rfl, rfl⟩ := hc; obtain rfl := Option.some.inj hfs; exact fs_ref35_Valid_ok N
  rw [if_neg hc] at hfs
  by_cases hc : d = 8 ∧ f = 37
  · rw [if_pos hc] at hfs; obtain ⟨rfl, rfl⟩ := hc; obtain rfl := Option.some.inj hfs; exact fs_ref35_most_ok N
  rw [if_neg hc] at hfs
  by_cases hc : d = 14 ∧ f = 32
  · rw [if_pos hc] at hfs; obtain ⟨rfl, rfl⟩ := hc; obtain rfl := Option.some.inj hfs; exact fs_ref35_least_ok N
  rw [if_neg hc] at hfs
  cases hfs
theorem fo_ref35_Spread : FunOk Try.prog 21 Try.f21 Try.f21.body.get! := ⟨Try.func21, rfl, by decide, by kernel_rfl⟩
attribute [go_sem] E_ref35_Spread_T E_ref35_Spread_G0 E_ref35_Spread_G1 E_ref35_Spread_G2
set_option maxHeartbeats 4000000 in
theorem w_ref35_Spread (N : Nat) (a0 : (List Load)) (r : Int) (h : ref35_Spread N a0 = some r) : Con Try.prog 21 [] true [.sl false none 2 none (a0.map Load.row)] (.val (.int .i64 r)) := by
  refine fun_ok2 (E := E_ref35_Spread N) (tiOf_ok Try.prog _) (E_ref35_Spread_ok N) mix fo_ref35_Spread (Nat.le_of_ble_eq_true rfl) ?_
  intro _
  rw [entry_tab (by simp)]
  rw [show entryF [] [.sl false none 2 none (a0.map Load.row)] = (updT deadT 0 (.sl false none 2 none (a0.map Load.row))) from by funext t; match t with | 0 => rfl | t + 1 => rfl]
  apply W_start
  simp only [Try.f21, Option.get!, R0_RZ]
  unfold ref35_Spread at h
  obtain ⟨r1, hr1, h⟩ := Option.bind_eq_some_iff.1 h
  simp (config := { maxSteps := 4000000 }) only [go_sem, Nat.reduceLT, Nat.reduceEqDiff, Nat.reduceAdd, Nat.reduceBEq, Nat.reduceMul, Nat.reduceSub, reduceIte, Nat.reduceLeDiff, reduceCtorEq, Int.reduceNeg, Int.reduceToNat, Int.reduceEq, Int.reduceNe, Int.reduceLT, Int.reduceLE, hr1]
  repeat' ((with_reducible refine and_bar ?_ ?_); kernel_rfl)
  refine W_cond_nbool rfl (fun hc2 => ?_) (fun hc2 => ?_)
  · first | rw [if_neg (ne_true_of_eq_false hc2)] at h | simp only [hc2, Bool.not_true, Bool.not_false, Bool.false_eq_true, if_true, if_false] at h
    simp (config := { maxSteps := 4000000 }) only [go_sem, Nat.reduceLT, Nat.reduceEqDiff, Nat.reduceAdd, Nat.reduceBEq, Nat.reduceMul, Nat.reduceSub, reduceIte, Nat.reduceLeDiff, reduceCtorEq, Int.reduceNeg, Int.reduceToNat, Int.reduceEq, Int.reduceNe, Int.reduceLT, Int.reduceLE, hr1, hc2, FinW_ret]
    repeat' ((with_reducible refine and_bar ?_ ?_); kernel_rfl)
    obtain rfl := Option.some.inj h
    exact ⟨_, rfl, (by exact ROk.refl _), (by repeat' (first | exact PureC.val _ | refine PureC.tup ?_ | refine PureC.agg ?_ | exact pure_nil | refine pure_cons ?_ ?_))⟩
  · first | rw [if_pos hc2] at h | simp only [hc2, Bool.not_true, Bool.not_false, Bool.false_eq_true, if_true, if_false] at h
    obtain ⟨r2, hr3, h⟩ := Option.bind_eq_some_iff.1 h
    obtain ⟨x3, hb4, hx5, h⟩ := gx_some h
    obtain ⟨r4, hr6, h⟩ := Option.bind_eq_some_iff.1 h
    obtain ⟨x5, hb7, hx8, h⟩ := gx_some h
    simp (config := { maxSteps := 4000000 }) only [go_sem, Nat.reduceLT, Nat.reduceEqDiff, Nat.reduceAdd, Nat.reduceBEq, Nat.reduceMul, Nat.reduceSub, reduceIte, Nat.reduceLeDiff, reduceCtorEq, Int.reduceNeg, Int.reduceToNat, Int.reduceEq, Int.reduceNe, Int.reduceLT, Int.reduceLE, hr1, hc2, hr3, hb4, hx5, hr6, hb7, hx8, FinW_ret]
    repeat' ((with_reducible refine and_bar ?_ ?_); kernel_rfl)
    obtain rfl := Option.some.inj h
    exact ⟨_, rfl, (by exact ROk.refl _), (by repeat' (first | exact PureC.val _ | refine PureC.tup ?_ | refine PureC.agg ?_ | exact pure_nil | refine pure_cons ?_ ?_))⟩
def fs_ref35_Spread (N : Nat) : FnS := { own := [], pure := true, fn := fun cs => match cs with
  | [c0] => ((decL 2 Load.dec) c0).bind fun qc0 => (ref35_Spread N qc0).map fun r => .val (.int .i64 r)
  | _ => none }
theorem fs_ref35_Spread_own (N : Nat) : (fs_ref35_Spread N).own = [] := rfl
theorem fs_ref35_Spread_pure (N : Nat) : (fs_ref35_Spread N).pure = true := rfl
attribute [go_sem] fs_ref35_Spread fs_ref35_Spread_own fs_ref35_Spread_pure
theorem fs_ref35_Spread_ok (N : Nat) : FSOk Try.prog 21 (fs_ref35_Spread N) := by
  refine ⟨fun cs r h => ?_, fun h => by cases h⟩
  simp only [fs_ref35_Spread] at h
  split at h
  · simp only [Option.bind_eq_some_iff, Option.map_eq_some_iff] at h
    obtain ⟨q0, h0, r', hr, rfl⟩ := h
    exact ((w_ref35_Spread N q0 r' hr).args (LeL.cons (decL_le Load.dec_le h0) (LeL.nil)))
  · cases h

end Go.Proofs.Ytpbloecedgddlaa
end

section
set_option linter.unusedSimpArgs false
set_option linter.unusedVariables false
set_option maxRecDepth 100000
namespace Go.Proofs.Ytpbloecedgddlaa
open Go Go.Proofs Go.Abs
noncomputable def E_ref35_Total (N : Nat) : Env := { T := tiOf Try.prog, G := fun d f => if d = 6 ∧ f = 15 then some (fs_ref35_Valid N) else none }
theorem E_ref35_Total_T (N : Nat) : (E_ref35_Total N).T = tiOf Try.prog := rfl
theorem E_ref35_Total_G0 (N : Nat) : (E_ref35_Total N).G 6 15 = some (fs_ref35_Valid N) := rfl
theorem E_ref35_Total_ok (N : Nat) : GOk Try.prog { T := tiOf Try.prog, G := (E_ref35_Total N).G } := by
  intro d f fs hfs
  simp only [E_ref35_Total] at hfs
  by_cases hc : d = 6 ∧ f = 15
  · rw [if_pos hc] at hfs; obtain ⟨rfl, rfl⟩ := hc; obtain rfl := Option.some.inj hfs; exact fs_ref35_Valid_ok N
  rw [if_neg hc] at hfs
  cases hfs
theorem fo_ref35_Total : FunOk Try.prog 23 Try.f23 Try.f23.body.get! := ⟨Try.func23, rfl, by decide, by kernel_rfl⟩
attribute [go_sem] E_ref35_Total_T E_ref35_Total_G0
set_option maxHeartbeats 4000000 in
theorem w_ref35_Total (N : Nat) (a0 : (List Load)) (r : Int) (h : ref35_Total N a0 = some r) : Con Try.prog 23 [] true [.sl false none 2 none (a0.map Load.row)] (.val (.int .i64 r)) := by
  refine fun_ok2 (E := E_ref35_Total N) (tiOf_ok Try.prog _) (E_ref35_Total_ok N) mix fo_ref35_Total (Nat.le_of_ble_eq_true rfl) ?_
  intro _
  rw [entry_tab (by simp)]
  rw [show entryF [] [.sl false none 2 none (a0.map Load.row)] = (updT deadT 0 (.sl false none 2 none (a0.map Load.row))) from by funext t; match t with | 0 => rfl | t + 1 => rfl]
  apply W_start
  simp only [Try.f23, Option.get!, R0_RZ]
  unfold ref35_Total at h
  obtain ⟨r1, hr1, h⟩ := Option.bind_eq_some_iff.1 h
  simp (config := { maxSteps := 4000000 }) only [go_sem, Nat.reduceLT, Nat.reduceEqDiff, Nat.reduceAdd, Nat.reduceBEq, Nat.reduceMul, Nat.reduceSub, reduceIte, Nat.reduceLeDiff, reduceCtorEq, Int.reduceNeg, Int.reduceToNat, Int.reduceEq, Int.reduceNe, Int.reduceLT, Int.reduceLE, hr1]
  refine W_cond_nbool rfl (fun hc2 => ?_) (fun hc2 => ?_)
  · first | rw [if_neg (ne_true_of_eq_false hc2)] at h | simp only [hc2, Bool.not_true, Bool.not_false, Bool.false_eq_true, if_true, if_false] at h
    simp (config := { maxSteps := 4000000 }) only [go_sem, Nat.reduceLT, Nat.reduceEqDiff, Nat.reduceAdd, Nat.reduceBEq, Nat.reduceMul, Nat.reduceSub, reduceIte, Nat.reduceLeDiff, reduceCtorEq, Int.reduceNeg, Int.reduceToNat, Int.reduceEq, Int.reduceNe, Int.reduceLT, Int.reduceLE, hr1, hc2, FinW_ret]
    obtain rfl := Option.some.inj h
    exact ⟨_, rfl, (by exact ROk.refl _), (by repeat' (first | exact PureC.val _ | refine PureC.tup ?_ | refine PureC.agg ?_ | exact pure_nil | refine pure_cons ?_ ?_))⟩
  · first | rw [if_pos hc2] at h | simp only [hc2, Bool.not_true, Bool.not_false, Bool.false_eq_true, if_true, if_false] at h
    simp (config := { maxSteps := 4000000 }) only [go_sem, Nat.reduceLT, Nat.reduceEqDiff, Nat.reduceAdd, Nat.reduceBEq, Nat.reduceMul, Nat.reduceSub, reduceIte, Nat.reduceLeDiff, reduceCtorEq, Int.reduceNeg, Int.reduceToNat, Int.reduceEq, Int.reduceNe, Int.reduceLT, Int.reduceLE, hr1, hc2]
    refine W_real fun hreal4 => ?_
    have hl3 := hreal4.lenT 0 (by decide) (by simp only [go_sem, Nat.reduceLT, Nat.reduceEqDiff, Nat.reduceAdd, Nat.reduceBEq, Nat.reduceMul, Nat.reduceSub, reduceIte, Nat.reduceLeDiff, reduceCtorEq, Int.reduceNeg, Int.reduceToNat, Int.reduceEq, Int.reduceNe, Int.reduceLT, Int.reduceLE, Bool.or_self, List.length_set, Int.natCast_zero, Int.cast_ofNat_Int, hr1, hc2]; rfl)
    rw [List.length_map] at hl3
    refine W_range (fun (v5 : Nat) (b : Int) => ⟨tab 22 (updT (updT (updT deadT 0 (.sl false none 2 none (a0.map Load.row))) 3 (.val (.int .i64 b))) 4 (.val (.int .i64 ((v5 : Nat) : Int)))), RZ⟩) 0 h ?_ ?_
    · refine weak_roots ?_ ?_
      · (repeat' (first | exact weakX_nil | refine weakX_cons ?_ ?_)) <;> (first | rfl | simp only [go_sem, Nat.reduceLT, Nat.reduceEqDiff, Nat.reduceAdd, Nat.reduceBEq, Nat.reduceMul, Nat.reduceSub, reduceIte, Nat.reduceLeDiff, reduceCtorEq, Int.reduceNeg, Int.reduceToNat, Int.reduceEq, Int.reduceNe, Int.reduceLT, Int.reduceLE, Bool.or_self, List.length_set, Int.natCast_zero, Int.cast_ofNat_Int, hr1, hc2])
      · (repeat' (first | exact weakR_nil | refine weakR_cons ?_ ?_ ?_)) <;> (first | rfl | simp only [go_sem, Nat.reduceLT, Nat.reduceEqDiff, Nat.reduceAdd, Nat.reduceBEq, Nat.reduceMul, Nat.reduceSub, reduceIte, Nat.reduceLeDiff, reduceCtorEq, Int.reduceNeg, Int.reduceToNat, Int.reduceEq, Int.reduceNe, Int.reduceLT, Int.reduceLE, Bool.or_self, List.length_set, Int.natCast_zero, Int.cast_ofNat_Int, hr1, hc2])
    · rintro v5 v4 hi5 h -
      rcases drop_cases a0 v5 hi5 with ⟨x8, hi5', hx6, hd8⟩ | ⟨hi5', _, hd8⟩
      · rw [hd8] at h
        simp only [ref35_Total_L1] at h
        have hw7 := wrap_succ hi5' hl3
        simp (config := { maxSteps := 4000000 }) only [go_sem, Nat.reduceLT, Nat.reduceEqDiff, Nat.reduceAdd, Nat.reduceBEq, Nat.reduceMul, Nat.reduceSub, reduceIte, Nat.reduceLeDiff, reduceCtorEq, Int.reduceNeg, Int.reduceToNat, Int.reduceEq, Int.reduceNe, Int.reduceLT, Int.reduceLE, hr1, hc2, hx6, hi5', hw7]
        refine W_cond_t rfl ?_
        simp (config := { maxSteps := 4000000 }) only [go_sem, Nat.reduceLT, Nat.reduceEqDiff, Nat.reduceAdd, Nat.reduceBEq, Nat.reduceMul, Nat.reduceSub, reduceIte, Nat.reduceLeDiff, reduceCtorEq, Int.reduceNeg, Int.reduceToNat, Int.reduceEq, Int.reduceNe, Int.reduceLT, Int.reduceLE, hr1, hc2, hx6, hi5', hw7]
        first | refine ⟨(IntKind.i64.wrap (v4 + x8.Actors)), ?_, h⟩ | refine ⟨hi5', (IntKind.i64.wrap (v4 + x8.Actors)), ?_, h⟩
        refine weak_roots ?_ ?_
        · (repeat' (first | exact weakX_nil | refine weakX_cons ?_ ?_)) <;> (first | rfl | simp only [go_sem, Nat.reduceLT, Nat.reduceEqDiff, Nat.reduceAdd, Nat.reduceBEq, Nat.reduceMul, Nat.reduceSub, reduceIte, Nat.reduceLeDiff, reduceCtorEq, Int.reduceNeg, Int.reduceToNat, Int.reduceEq, Int.reduceNe, Int.reduceLT, Int.reduceLE, Bool.or_self, List.length_set, Int.natCast_zero, Int.cast_ofNat_Int, hr1, hc2, hx6, hi5', hw7])
        · (repeat' (first | exact weakR_nil | refine weakR_cons ?_ ?_ ?_)) <;> (first | rfl | simp only [go_sem, Nat.reduceLT, Nat.reduceEqDiff, Nat.reduceAdd, Nat.reduceBEq, Nat.reduceMul, Nat.reduceSub, reduceIte, Nat.reduceLeDiff, reduceCtorEq, Int.reduceNeg, Int.reduceToNat, Int.reduceEq, Int.reduceNe, Int.reduceLT, Int.reduceLE, Bool.or_self, List.length_set, Int.natCast_zero, Int.cast_ofNat_Int, hr1, hc2, hx6, hi5', hw7])
      · rw [hd8] at h
        simp only [ref35_Total_L1] at h
        simp (config := { maxSteps := 4000000 }) only [go_sem, Nat.reduceLT, Nat.reduceEqDiff, Nat.reduceAdd, Nat.reduceBEq, Nat.reduceMul, Nat.reduceSub, reduceIte, Nat.reduceLeDiff, reduceCtorEq, Int.reduceNeg, Int.reduceToNat, Int.reduceEq, Int.reduceNe, Int.reduceLT, Int.reduceLE, hr1, hc2, hi5']
        refine W_cond_f rfl ?_
        simp (config := { maxSteps := 4000000 }) only [go_sem, Nat.reduceLT, Nat.reduceEqDiff, Nat.reduceAdd, Nat.reduceBEq, Nat.reduceMul, Nat.reduceSub, reduceIte, Nat.reduceLeDiff, reduceCtorEq, Int.reduceNeg, Int.reduceToNat, Int.reduceEq, Int.reduceNe, Int.reduceLT, Int.reduceLE, hr1, hc2, hi5', FinW_ret]
        obtain rfl := Option.some.inj h
        exact ⟨_, rfl, (by exact ROk.refl _), (by repeat' (first | exact PureC.val _ | refine PureC.tup ?_ | refine PureC.agg ?_ | exact pure_nil | refine pure_cons ?_ ?_))⟩
def fs_ref35_Total (N : Nat) : FnS := { own := [], pure := true, fn := fun cs => match cs with
  | [c0] => ((decL 2 Load.dec) c0).bind fun qc0 => (ref35_Total N qc0).map fun r => .val (.int .i64 r)
  | _ => none }
theorem fs_ref35_Total_own (N : Nat) : (fs_ref35_Total N).own = [] := rfl
theorem fs_ref35_Total_pure (N : Nat) : (fs_ref35_Total N).pure = true := rfl
attribute [go_sem] fs_ref35_Total fs_ref35_Total_own fs_ref35_Total_pure
theorem fs_ref35_Total_ok (N : Nat) : FSOk Try.prog 23 (fs_ref35_Total N) := by
  refine ⟨fun cs r h => ?_, fun h => by cases h⟩
  simp only [fs_ref35_Total] at h
  split at h
  · simp only [Option.bind_eq_some_iff, Option.map_eq_some_iff] at h
    obtain ⟨q0, h0, r', hr, rfl⟩ := h
    exact ((w_ref35_Total N q0 r' hr).args (LeL.cons (decL_le Load.dec_le h0) (LeL.nil)))
  · cases h

end Go.Proofs.Ytpbloecedgddlaa
end

section
set_option linter.unusedSimpArgs false
set_option linter.unusedVariables false
set_option maxRecDepth 100000
namespace Go.Proofs.Ytpbloecedgddlaa
open Go Go.Proofs Go.Abs
noncomputable def E_ref35_Needed (N : Nat) : Env := { T := tiOf Try.prog, G := fun d f => if d = 12 ∧ f = 15 then some (fs_ref35_Valid N) else if d = 15 ∧ f = 23 then some (fs_ref35_Total N) else none }
theorem E_ref35_Needed_T (N : Nat) : (E_ref35_Needed N).T = tiOf Try.prog := rfl
theorem E_ref35_Needed_G0 (N : Nat) : (E_ref35_Needed N).G 12 15 = some (fs_ref35_Valid N) := rfl
theorem E_ref35_Needed_G1 (N : Nat) : (E_ref35_Needed N).G 15 23 = some (fs_ref35_Total N) := rfl
theorem E_ref35_Needed_ok (N : Nat) : GOk Try.prog { T := tiOf Try.prog, G := (E_ref35_Needed N).G } := by
  intro d f fs hfs
  simp only [E_ref35_Needed] at hfs
  by_cases hc : d = 12 ∧ f = 15
  · rw [if_pos hc] at hfs; obtain ⟨rfl, rfl⟩ := hc; obtain rfl := Option.some.inj hfs; exact fs_ref35_Valid_ok N
  rw [if_neg hc] at hfs
  by_cases hc : d = 15 ∧ f = 23
  · rw [if_pos hc] at hfs; obtain ⟨rfl, rfl⟩ := hc; obtain rfl := Option.some.inj hfs; exact fs_ref35_Total_ok N
  rw [if_neg hc] at hfs
  cases hfs
theorem fo_ref35_Needed : FunOk Try.prog 25 Try.f25 Try.f25.body.get! := ⟨Try.func25, rfl, by decide, by kernel_rfl⟩
attribute [go_sem] E_ref35_Needed_T E_ref35_Needed_G0 E_ref35_Needed_G1
set_option maxHeartbeats 4000000 in
theorem w_ref35_Needed (N : Nat) (a0 : (List Load)) (r : Int) (h : ref35_Needed N a0 = some r) : Con Try.prog 25 [] true [.sl false none 2 none (a0.map Load.row)] (.val (.int .i64 r)) := by
  refine fun_ok2 (E := E_ref35_Needed N) (tiOf_ok Try.prog _) (E_ref35_Needed_ok N) mix fo_ref35_Needed (Nat.le_of_ble_eq_true rfl) ?_
  intro _
  rw [entry_tab (by simp)]
  rw [show entryF [] [.sl false none 2 none (a0.map Load.row)] = (updT deadT 0 (.sl false none 2 none (a0.map Load.row))) from by funext t; match t with | 0 => rfl | t + 1 => rfl]
  apply W_start
  simp only [Try.f25, Option.get!, R0_RZ]
  unfold ref35_Needed at h
  obtain ⟨r1, hr1, h⟩ := Option.bind_eq_some_iff.1 h
  simp (config := { maxSteps := 4000000 }) only [go_sem, Nat.reduceLT, Nat.reduceEqDiff, Nat.reduceAdd, Nat.reduceBEq, Nat.reduceMul, Nat.reduceSub, reduceIte, Nat.reduceLeDiff, reduceCtorEq, Int.reduceNeg, Int.reduceToNat, Int.reduceEq, Int.reduceNe, Int.reduceLT, Int.reduceLE, hr1]
  repeat' ((with_reducible refine and_bar ?_ ?_); kernel_rfl)
  refine W_cond_nbool rfl (fun hc2 => ?_) (fun hc2 => ?_)
  · first | rw [if_neg (ne_true_of_eq_false hc2)] at h | simp only [hc2, Bool.not_true, Bool.not_false, Bool.false_eq_true, if_true, if_false] at h
    simp (config := { maxSteps := 4000000 }) only [go_sem, Nat.reduceLT, Nat.reduceEqDiff, Nat.reduceAdd, Nat.reduceBEq, Nat.reduceMul, Nat.reduceSub, reduceIte, Nat.reduceLeDiff, reduceCtorEq, Int.reduceNeg, Int.reduceToNat, Int.reduceEq, Int.reduceNe, Int.reduceLT, Int.reduceLE, hr1, hc2, FinW_ret]
    repeat' ((with_reducible refine and_bar ?_ ?_); kernel_rfl)
    obtain rfl := Option.some.inj h
    exact ⟨_, rfl, (by exact ROk.refl _), (by repeat' (first | exact PureC.val _ | refine PureC.tup ?_ | refine PureC.agg ?_ | exact pure_nil | refine pure_cons ?_ ?_))⟩
  · first | rw [if_pos hc2] at h | simp only [hc2, Bool.not_true, Bool.not_false, Bool.false_eq_true, if_true, if_false] at h
    obtain ⟨r2, hr3, h⟩ := Option.bind_eq_some_iff.1 h
    obtain ⟨hd4, h⟩ := dvx_some h
    obtain ⟨hd5, h⟩ := dvx_some h
    simp (config := { maxSteps := 4000000 }) only [go_sem, Nat.reduceLT, Nat.reduceEqDiff, Nat.reduceAdd, Nat.reduceBEq, Nat.reduceMul, Nat.reduceSub, reduceIte, Nat.reduceLeDiff, reduceCtorEq, Int.reduceNeg, Int.reduceToNat, Int.reduceEq, Int.reduceNe, Int.reduceLT, Int.reduceLE, hr1, hc2, hr3, hd4, hd5]
    repeat' ((with_reducible refine and_bar ?_ ?_); kernel_rfl)
    refine W_real fun hreal7 => ?_
    have hl6 := hreal7.lenT 0 (by decide) (by simp only [go_sem, Nat.reduceLT, Nat.reduceEqDiff, Nat.reduceAdd, Nat.reduceBEq, Nat.reduceMul, Nat.reduceSub, reduceIte, Nat.reduceLeDiff, reduceCtorEq, Int.reduceNeg, Int.reduceToNat, Int.reduceEq, Int.reduceNe, Int.reduceLT, Int.reduceLE, Bool.or_self, List.length_set, Int.natCast_zero, Int.cast_ofNat_Int, hr1, hc2, hr3, hd4, hd5]; rfl)
    rw [List.length_map] at hl6
    refine W_range (fun (v6 : Nat) (b : Int) => ⟨tab 92 (updT (updT (updT (updT (updT deadT 0 (.sl false none 2 none (a0.map Load.row))) 4 (.val (.int .i64 (IntKind.i64.wrap (Int.tdiv r2 ((a0.length : Nat) : Int)))))) 5 (.val (.int .i64 (Int.tmod r2 ((a0.length : Nat) : Int))))) 6 (.val (.int .i64 b))) 7 (.val (.int .i64 ((v6 : Nat) : Int)))), RZ⟩) 0 h ?_ ?_
    · refine weak_roots ?_ ?_
      · (repeat' (first | exact weakX_nil | refine weakX_cons ?_ ?_)) <;> (first | rfl | simp only [go_sem, Nat.reduceLT, Nat.reduceEqDiff, Nat.reduceAdd, Nat.reduceBEq, Nat.reduceMul, Nat.reduceSub, reduceIte, Nat.reduceLeDiff, reduceCtorEq, Int.reduceNeg, Int.reduceToNat, Int.reduceEq, Int.reduceNe, Int.reduceLT, Int.reduceLE, Bool.or_self, List.length_set, Int.natCast_zero, Int.cast_ofNat_Int, hr1, hc2, hr3, hd4, hd5])
      · (repeat' (first | exact weakR_nil | refine weakR_cons ?_ ?_ ?_)) <;> (first | rfl | simp only [go_sem, Nat.reduceLT, Nat.reduceEqDiff, Nat.reduceAdd, Nat.reduceBEq, Nat.reduceMul, Nat.reduceSub, reduceIte, Nat.reduceLeDiff, reduceCtorEq, Int.reduceNeg, Int.reduceToNat, Int.reduceEq, Int.reduceNe, Int.reduceLT, Int.reduceLE, Bool.or_self, List.length_set, Int.natCast_zero, Int.cast_ofNat_Int, hr1, hc2, hr3, hd4, hd5])
    · rintro v6 v5 hi8 h -
      rcases drop_cases a0 v6 hi8 with ⟨x9, hi8', hx9, hd11⟩ | ⟨hi8', _, hd11⟩
      · rw [hd11] at h
        simp only [ref35_Needed_L1] at h
        have hw10 := wrap_succ hi8' hl6
        simp (config := { maxSteps := 4000000 }) only [go_sem, Nat.reduceLT, Nat.reduceEqDiff, Nat.reduceAdd, Nat.reduceBEq, Nat.reduceMul, Nat.reduceSub, reduceIte, Nat.reduceLeDiff, reduceCtorEq, Int.reduceNeg, Int.reduceToNat, Int.reduceEq, Int.reduceNe, Int.reduceLT, Int.reduceLE, hr1, hc2, hr3, hd4, hd5, hx9, hi8', hw10]
        repeat' ((with_reducible refine and_bar ?_ ?_); kernel_rfl)
        refine W_cond_t rfl ?_
        simp (config := { maxSteps := 4000000 }) only [go_sem, Nat.reduceLT, Nat.reduceEqDiff, Nat.reduceAdd, Nat.reduceBEq, Nat.reduceMul, Nat.reduceSub, reduceIte, Nat.reduceLeDiff, reduceCtorEq, Int.reduceNeg, Int.reduceToNat, Int.reduceEq, Int.reduceNe, Int.reduceLT, Int.reduceLE, hr1, hc2, hr3, hd4, hd5, hx9, hi8', hw10]
        repeat' ((with_reducible refine and_bar ?_ ?_); kernel_rfl)
        refine W_real fun hreal13 => ?_
        have hl12 := hreal13.lenT 0 (by decide) (by simp only [go_sem, Nat.reduceLT, Nat.reduceEqDiff, Nat.reduceAdd, Nat.reduceBEq, Nat.reduceMul, Nat.reduceSub, reduceIte, Nat.reduceLeDiff, reduceCtorEq, Int.reduceNeg, Int.reduceToNat, Int.reduceEq, Int.reduceNe, Int.reduceLT, Int.reduceLE, Bool.or_self, List.length_set, Int.natCast_zero, Int.cast_ofNat_Int, hr1, hc2, hr3, hd4, hd5, hx9, hi8', hw10]; rfl)
        rw [List.length_map] at hl12
        refine W_range (fun (v14 : Nat) (b : Int) => ⟨tab 92 (updT (updT (updT (updT (updT (updT (updT deadT 0 (.sl false none 2 none (a0.map Load.row))) 4 (.val (.int .i64 (IntKind.i64.wrap (Int.tdiv r2 ((a0.length : Nat) : Int)))))) 5 (.val (.int .i64 (Int.tmod r2 ((a0.length : Nat) : Int))))) 6 (.val (.int .i64 v5))) 7 (.val (.int .i64 ((v6 : Nat) : Int)))) 8 (.val (.int .i64 b))) 9 (.val (.int .i64 ((v14 : Nat) : Int)))), RZ⟩) 0 h ?_ ?_
        · refine weak_roots ?_ ?_
          · (repeat' (first | exact weakX_nil | refine weakX_cons ?_ ?_)) <;> (first | rfl | simp only [go_sem, Nat.reduceLT, Nat.reduceEqDiff, Nat.reduceAdd, Nat.reduceBEq, Nat.reduceMul, Nat.reduceSub, reduceIte, Nat.reduceLeDiff, reduceCtorEq, Int.reduceNeg, Int.reduceToNat, Int.reduceEq, Int.reduceNe, Int.reduceLT, Int.reduceLE, Bool.or_self, List.length_set, Int.natCast_zero, Int.cast_ofNat_Int, hr1, hc2, hr3, hd4, hd5, hx9, hi8', hw10])
          · (repeat' (first | exact weakR_nil | refine weakR_cons ?_ ?_ ?_)) <;> (first | rfl | simp only [go_sem, Nat.reduceLT, Nat.reduceEqDiff, Nat.reduceAdd, Nat.reduceBEq, Nat.reduceMul, Nat.reduceSub, reduceIte, Nat.reduceLeDiff, reduceCtorEq, Int.reduceNeg, Int.reduceToNat, Int.reduceEq, Int.reduceNe, Int.reduceLT, Int.reduceLE, Bool.or_self, List.length_set, Int.natCast_zero, Int.cast_ofNat_Int, hr1, hc2, hr3, hd4, hd5, hx9, hi8', hw10])
        · rintro v14 v13 hi14 h -
          rcases drop_cases a0 v14 hi14 with ⟨x17, hi14', hx15, hd17⟩ | ⟨hi14', _, hd17⟩
          · rw [hd17] at h
            simp only [ref35_Needed_L2] at h
            have hw16 := wrap_succ hi14' hl12
            simp (config := { maxSteps := 4000000 }) only [go_sem, Nat.reduceLT, Nat.reduceEqDiff, Nat.reduceAdd, Nat.reduceBEq, Nat.reduceMul, Nat.reduceSub, reduceIte, Nat.reduceLeDiff, reduceCtorEq, Int.reduceNeg, Int.reduceToNat, Int.reduceEq, Int.reduceNe, Int.reduceLT, Int.reduceLE, hr1, hc2, hr3, hd4, hd5, hx9, hi8', hw10, hx15, hi14', hw16]
            repeat' ((with_reducible refine and_bar ?_ ?_); kernel_rfl)
            refine W_cond_t rfl ?_
            simp (config := { maxSteps := 4000000 }) only [go_sem, Nat.reduceLT, Nat.reduceEqDiff, Nat.reduceAdd, Nat.reduceBEq, Nat.reduceMul, Nat.reduceSub, reduceIte, Nat.reduceLeDiff, reduceCtorEq, Int.reduceNeg, Int.reduceToNat, Int.reduceEq, Int.reduceNe, Int.reduceLT, Int.reduceLE, hr1, hc2, hr3, hd4, hd5, hx9, hi8', hw10, hx15, hi14', hw16]
            repeat' ((with_reducible refine and_bar ?_ ?_); kernel_rfl)
            refine RX_guard_dec rfl (fun hc18 => ?_) (fun hc18 => ?_)
            · have hc18d := decide_eq_true hc18
              first | rw [if_pos hc18] at h | rw [if_pos hc18d] at h | simp only [hc18d, Bool.not_true, Bool.not_false, Bool.false_eq_true, if_true, if_false] at h
              unfold ref35_Needed_J1 at h
              simp (config := { maxSteps := 4000000 }) only [go_sem, Nat.reduceLT, Nat.reduceEqDiff, Nat.reduceAdd, Nat.reduceBEq, Nat.reduceMul, Nat.reduceSub, reduceIte, Nat.reduceLeDiff, reduceCtorEq, Int.reduceNeg, Int.reduceToNat, Int.reduceEq, Int.reduceNe, Int.reduceLT, Int.reduceLE, hr1, hc2, hr3, hd4, hd5, hx9, hi8', hw10, hx15, hi14', hw16, hc18d]
              repeat' ((with_reducible refine and_bar ?_ ?_); kernel_rfl)
              refine W_cond_t rfl ?_
              first | rw [if_pos (rfl : true = true)] at h | rw [if_neg Bool.false_ne_true] at h | skip
              simp (config := { maxSteps := 4000000 }) only [go_sem, Nat.reduceLT, Nat.reduceEqDiff, Nat.reduceAdd, Nat.reduceBEq, Nat.reduceMul, Nat.reduceSub, reduceIte, Nat.reduceLeDiff, reduceCtorEq, Int.reduceNeg, Int.reduceToNat, Int.reduceEq, Int.reduceNe, Int.reduceLT, Int.reduceLE, hr1, hc2, hr3, hd4, hd5, hx9, hi8', hw10, hx15, hi14', hw16, hc18d]
              repeat' ((with_reducible refine and_bar ?_ ?_); kernel_rfl)
              first | refine ⟨(IntKind.i64.wrap (v13 + 1)), ?_, h⟩ | refine ⟨hi14', (IntKind.i64.wrap (v13 + 1)), ?_, h⟩
              refine weak_roots ?_ ?_
              · (repeat' (first | exact weakX_nil | refine weakX_cons ?_ ?_)) <;> (first | rfl | simp only [go_sem, Nat.reduceLT, Nat.reduceEqDiff, Nat.reduceAdd, Nat.reduceBEq, Nat.reduceMul, Nat.reduceSub, reduceIte, Nat.reduceLeDiff, reduceCtorEq, Int.reduceNeg, Int.reduceToNat, Int.reduceEq, Int.reduceNe, Int.reduceLT, Int.reduceLE, Bool.or_self, List.length_set, Int.natCast_zero, Int.cast_ofNat_Int, hr1, hc2, hr3, hd4, hd5, hx9, hi8', hw10, hx15, hi14', hw16, hc18d])
              · (repeat' (first | exact weakR_nil | refine weakR_cons ?_ ?_ ?_)) <;> (first | rfl | simp only [go_sem, Nat.reduceLT, Nat.reduceEqDiff, Nat.reduceAdd, Nat.reduceBEq, Nat.reduceMul, Nat.reduceSub, reduceIte, Nat.reduceLeDiff, reduceCtorEq, Int.reduceNeg, Int.reduceToNat, Int.reduceEq, Int.reduceNe, Int.reduceLT, Int.reduceLE, Bool.or_self, List.length_set, Int.natCast_zero, Int.cast_ofNat_Int, hr1, hc2, hr3, hd4, hd5, hx9, hi8', hw10, hx15, hi14', hw16, hc18d])
            · have hc18d := decide_eq_false hc18
              first | rw [if_neg hc18] at h | rw [if_neg (ne_true_of_eq_false hc18d)] at h | simp only [hc18d, Bool.not_true, Bool.not_false, Bool.false_eq_true, if_true, if_false] at h
              simp (config := { maxSteps := 4000000 }) only [go_sem, Nat.reduceLT, Nat.reduceEqDiff, Nat.reduceAdd, Nat.reduceBEq, Nat.reduceMul, Nat.reduceSub, reduceIte, Nat.reduceLeDiff, reduceCtorEq, Int.reduceNeg, Int.reduceToNat, Int.reduceEq, Int.reduceNe, Int.reduceLT, Int.reduceLE, hr1, hc2, hr3, hd4, hd5, hx9, hi8', hw10, hx15, hi14', hw16, hc18d]
              repeat' ((with_reducible refine and_bar ?_ ?_); kernel_rfl)
              refine RX_guard_dec rfl (fun hc19 => ?_) (fun hc19 => ?_)
              · have hc19d := decide_eq_true hc19
                first | rw [if_pos hc19] at h | rw [if_pos hc19d] at h | simp only [hc19d, Bool.not_true, Bool.not_false, Bool.false_eq_true, if_true, if_false] at h
                unfold ref35_Needed_J1 at h
                simp (config := { maxSteps := 4000000 }) only [go_sem, Nat.reduceLT, Nat.reduceEqDiff, Nat.reduceAdd, Nat.reduceBEq, Nat.reduceMul, Nat.reduceSub, reduceIte, Nat.reduceLeDiff, reduceCtorEq, Int.reduceNeg, Int.reduceToNat, Int.reduceEq, Int.reduceNe, Int.reduceLT, Int.reduceLE, hr1, hc2, hr3, hd4, hd5, hx9, hi8', hw10, hx15, hi14', hw16, hc18d, hc19d]
                repeat' ((with_reducible refine and_bar ?_ ?_); kernel_rfl)
                refine W_cond_dec rfl (fun hc20 => ?_) (fun hc20 => ?_)
                · have hc20d := decide_eq_true hc20
                  first | rw [if_pos hc20] at h | rw [if_pos hc20d] at h | simp only [hc20d, Bool.not_true, Bool.not_false, Bool.false_eq_true, if_true, if_false] at h
                  simp (config := { maxSteps := 4000000 }) only [go_sem, Nat.reduceLT, Nat.reduceEqDiff, Nat.reduceAdd, Nat.reduceBEq, Nat.reduceMul, Nat.reduceSub, reduceIte, Nat.reduceLeDiff, reduceCtorEq, Int.reduceNeg, Int.reduceToNat, Int.reduceEq, Int.reduceNe, Int.reduceLT, Int.reduceLE, hr1, hc2, hr3, hd4, hd5, hx9, hi8', hw10, hx15, hi14', hw16, hc18d, hc19d, hc20d]
                  repeat' ((with_reducible refine and_bar ?_ ?_); kernel_rfl)
                  first | refine ⟨(IntKind.i64.wrap (v13 + 1)), ?_, h⟩ | refine ⟨hi14', (IntKind.i64.wrap (v13 + 1)), ?_, h⟩
                  refine weak_roots ?_ ?_
                  · (repeat' (first | exact weakX_nil | refine weakX_cons ?_ ?_)) <;> (first | rfl | simp only [go_sem, Nat.reduceLT, Nat.reduceEqDiff, Nat.reduceAdd, Nat.reduceBEq, Nat.reduceMul, Nat.reduceSub, reduceIte, Nat.reduceLeDiff, reduceCtorEq, Int.reduceNeg, Int.reduceToNat, Int.reduceEq, Int.reduceNe, Int.reduceLT, Int.reduceLE, Bool.or_self, List.length_set, Int.natCast_zero, Int.cast_ofNat_Int, hr1, hc2, hr3, hd4, hd5, hx9, hi8', hw10, hx15, hi14', hw16, hc18d, hc19d, hc20d])
                  · (repeat' (first | exact weakR_nil | refine weakR_cons ?_ ?_ ?_)) <;> (first | rfl | simp only [go_sem, Nat.reduceLT, Nat.reduceEqDiff, Nat.reduceAdd, Nat.reduceBEq, Nat.reduceMul, Nat.reduceSub, reduceIte, Nat.reduceLeDiff, reduceCtorEq, Int.reduceNeg, Int.reduceToNat, Int.reduceEq, Int.reduceNe, Int.reduceLT, Int.reduceLE, Bool.or_self, List.length_set, Int.natCast_zero, Int.cast_ofNat_Int, hr1, hc2, hr3, hd4, hd5, hx9, hi8', hw10, hx15, hi14', hw16, hc18d, hc19d, hc20d])
                · have hc20d := decide_eq_false hc20
                  first | rw [if_neg hc20] at h | rw [if_neg (ne_true_of_eq_false hc20d)] at h | simp only [hc20d, Bool.not_true, Bool.not_false, Bool.false_eq_true, if_true, if_false] at h
                  simp (config := { maxSteps := 4000000 }) only [go_sem, Nat.reduceLT, Nat.reduceEqDiff, Nat.reduceAdd, Nat.reduceBEq, Nat.reduceMul, Nat.reduceSub, reduceIte, Nat.reduceLeDiff, reduceCtorEq, Int.reduceNeg, Int.reduceToNat, Int.reduceEq, Int.reduceNe, Int.reduceLT, Int.reduceLE, hr1, hc2, hr3, hd4, hd5, hx9, hi8', hw10, hx15, hi14', hw16, hc18d, hc19d, hc20d]
                  repeat' ((with_reducible refine and_bar ?_ ?_); kernel_rfl)
                  first | refine ⟨v13, ?_, h⟩ | refine ⟨hi14', v13, ?_, h⟩
                  refine weak_roots ?_ ?_
                  · (repeat' (first | exact weakX_nil | refine weakX_cons ?_ ?_)) <;> (first | rfl | simp only [go_sem, Nat.reduceLT, Nat.reduceEqDiff, Nat.reduceAdd, Nat.reduceBEq, Nat.reduceMul, Nat.reduceSub, reduceIte, Nat.reduceLeDiff, reduceCtorEq, Int.reduceNeg, Int.reduceToNat, Int.reduceEq, Int.reduceNe, Int.reduceLT, Int.reduceLE, Bool.or_self, List.length_set, Int.natCast_zero, Int.cast_ofNat_Int, hr1, hc2, hr3, hd4, hd5, hx9, hi8', hw10, hx15, hi14', hw16, hc18d, hc19d, hc20d])
                  · (repeat' (first | exact weakR_nil | refine weakR_cons ?_ ?_ ?_)) <;> (first | rfl | simp only [go_sem, Nat.reduceLT, Nat.reduceEqDiff, Nat.reduceAdd, Nat.reduceBEq, Nat.reduceMul, Nat.reduceSub, reduceIte, Nat.reduceLeDiff, reduceCtorEq, Int.reduceNeg, Int.reduceToNat, Int.reduceEq, Int.reduceNe, Int.reduceLT, Int.reduceLE, Bool.or_self, List.length_set, Int.natCast_zero, Int.cast_ofNat_Int, hr1, hc2, hr3, hd4, hd5, hx9, hi8', hw10, hx15, hi14', hw16, hc18d, hc19d, hc20d])
              · have hc19d := decide_eq_false hc19
                first | rw [if_neg hc19] at h | rw [if_neg (ne_true_of_eq_false hc19d)] at h | simp only [hc19d, Bool.not_true, Bool.not_false, Bool.false_eq_true, if_true, if_false] at h
                unfold ref35_Needed_J1 at h
                simp (config := { maxSteps := 4000000 }) only [go_sem, Nat.reduceLT, Nat.reduceEqDiff, Nat.reduceAdd, Nat.reduceBEq, Nat.reduceMul, Nat.reduceSub, reduceIte, Nat.reduceLeDiff, reduceCtorEq, Int.reduceNeg, Int.reduceToNat, Int.reduceEq, Int.reduceNe, Int.reduceLT, Int.reduceLE, hr1, hc2, hr3, hd4, hd5, hx9, hi8', hw10, hx15, hi14', hw16, hc18d, hc19d]
                repeat' ((with_reducible refine and_bar ?_ ?_); kernel_rfl)
                refine W_cond_f rfl ?_
                first | rw [if_pos (rfl : true = true)] at h | rw [if_neg Bool.false_ne_true] at h | skip
                simp (config := { maxSteps := 4000000 }) only [go_sem, Nat.reduceLT, Nat.reduceEqDiff, Nat.reduceAdd, Nat.reduceBEq, Nat.reduceMul, Nat.reduceSub, reduceIte, Nat.reduceLeDiff, reduceCtorEq, Int.reduceNeg, Int.reduceToNat, Int.reduceEq, Int.reduceNe, Int.reduceLT, Int.reduceLE, hr1, hc2, hr3, hd4, hd5, hx9, hi8', hw10, hx15, hi14', hw16, hc18d, hc19d]
                repeat' ((with_reducible refine and_bar ?_ ?_); kernel_rfl)
                first | refine ⟨v13, ?_, h⟩ | refine ⟨hi14', v13, ?_, h⟩
                refine weak_roots ?_ ?_
                · (repeat' (first | exact weakX_nil | refine weakX_cons ?_ ?_)) <;> (first | rfl | simp only [go_sem, Nat.reduceLT, Nat.reduceEqDiff, Nat.reduceAdd, Nat.reduceBEq, Nat.reduceMul, Nat.reduceSub, reduceIte, Nat.reduceLeDiff, reduceCtorEq, Int.reduceNeg, Int.reduceToNat, Int.reduceEq, Int.reduceNe, Int.reduceLT, Int.reduceLE, Bool.or_self, List.length_set, Int.natCast_zero, Int.cast_ofNat_Int, hr1, hc2, hr3, hd4, hd5, hx9, hi8', hw10, hx15, hi14', hw16, hc18d, hc19d])
                · (repeat' (first | exact weakR_nil | refine weakR_cons ?_ ?_ ?_)) <;> (first | rfl | simp only [go_sem, Nat.reduceLT, Nat.reduceEqDiff, Nat.reduceAdd, Nat.reduceBEq, Nat.reduceMul, Nat.reduceSub, reduceIte, Nat.reduceLeDiff, reduceCtorEq, Int.reduceNeg, Int.reduceToNat, Int.reduceEq, Int.reduceNe, Int.reduceLT, Int.reduceLE, Bool.or_self, List.length_set, Int.natCast_zero, Int.cast_ofNat_Int, hr1, hc2, hr3, hd4, hd5, hx9, hi8', hw10, hx15, hi14', hw16, hc18d, hc19d])
          · rw [hd17] at h
            simp only [ref35_Needed_L2] at h
            simp (config := { maxSteps := 4000000 }) only [go_sem, Nat.reduceLT, Nat.reduceEqDiff, Nat.reduceAdd, Nat.reduceBEq, Nat.reduceMul, Nat.reduceSub, reduceIte, Nat.reduceLeDiff, reduceCtorEq, Int.reduceNeg, Int.reduceToNat, Int.reduceEq, Int.reduceNe, Int.reduceLT, Int.reduceLE, hr1, hc2, hr3, hd4, hd5, hx9, hi8', hw10, hi14']
            repeat' ((with_reducible refine and_bar ?_ ?_); kernel_rfl)
            refine W_cond_f rfl ?_
            unfold ref35_Needed_J3 at h
            simp (config := { maxSteps := 4000000 }) only [go_sem, Nat.reduceLT, Nat.reduceEqDiff, Nat.reduceAdd, Nat.reduceBEq, Nat.reduceMul, Nat.reduceSub, reduceIte, Nat.reduceLeDiff, reduceCtorEq, Int.reduceNeg, Int.reduceToNat, Int.reduceEq, Int.reduceNe, Int.reduceLT, Int.reduceLE, hr1, hc2, hr3, hd4, hd5, hx9, hi8', hw10, hi14']
            repeat' ((with_reducible refine and_bar ?_ ?_); kernel_rfl)
            refine W_cond_dec rfl (fun hc21 => ?_) (fun hc21 => ?_)
            · have hc21d := decide_eq_true hc21
              first | rw [if_pos hc21] at h | rw [if_pos hc21d] at h | simp only [hc21d, Bool.not_true, Bool.not_false, Bool.false_eq_true, if_true, if_false] at h
              unfold ref35_Needed_J2 at h
              simp (config := { maxSteps := 4000000 }) only [go_sem, Nat.reduceLT, Nat.reduceEqDiff, Nat.reduceAdd, Nat.reduceBEq, Nat.reduceMul, Nat.reduceSub, reduceIte, Nat.reduceLeDiff, reduceCtorEq, Int.reduceNeg, Int.reduceToNat, Int.reduceEq, Int.reduceNe, Int.reduceLT, Int.reduceLE, hr1, hc2, hr3, hd4, hd5, hx9, hi8', hw10, hi14', hc21d]
              repeat' ((with_reducible refine and_bar ?_ ?_); kernel_rfl)
              first | refine ⟨(IntKind.i64.wrap (v5 + (if (IntKind.i64.wrap (x9.Actors - (IntKind.i64.wrap ((IntKind.i64.wrap (Int.tdiv r2 ((a0.length : Nat) : Int))) + 1)))) > 0 then IntKind.i64.wrap (x9.Actors - (IntKind.i64.wrap ((IntKind.i64.wrap (Int.tdiv r2 ((a0.length : Nat) : Int))) + 1))) else 0))), ?_, h⟩ | refine ⟨hi8', (IntKind.i64.wrap (v5 + (if (IntKind.i64.wrap (x9.Actors - (IntKind.i64.wrap ((IntKind.i64.wrap (Int.tdiv r2 ((a0.length : Nat) : Int))) + 1)))) > 0 then IntKind.i64.wrap (x9.Actors - (IntKind.i64.wrap ((IntKind.i64.wrap (Int.tdiv r2 ((a0.length : Nat) : Int))) + 1))) else 0))), ?_, h⟩
              refine weak_roots ?_ ?_
              · (repeat' (first | exact weakX_nil | refine weakX_cons ?_ ?_)) <;> (first | rfl | simp only [go_sem, Nat.reduceLT, Nat.reduceEqDiff, Nat.reduceAdd, Nat.reduceBEq, Nat.reduceMul, Nat.reduceSub, reduceIte, Nat.reduceLeDiff, reduceCtorEq, Int.reduceNeg, Int.reduceToNat, Int.reduceEq, Int.reduceNe, Int.reduceLT, Int.reduceLE, Bool.or_self, List.length_set, Int.natCast_zero, Int.cast_ofNat_Int, hr1, hc2, hr3, hd4, hd5, hx9, hi8', hw10, hi14', hc21d])
              · (repeat' (first | exact weakR_nil | refine weakR_cons ?_ ?_ ?_)) <;> (first | rfl | simp only [go_sem, Nat.reduceLT, Nat.reduceEqDiff, Nat.reduceAdd, Nat.reduceBEq, Nat.reduceMul, Nat.reduceSub, reduceIte, Nat.reduceLeDiff, reduceCtorEq, Int.reduceNeg, Int.reduceToNat, Int.reduceEq, Int.reduceNe, Int.reduceLT, Int.reduceLE, Bool.or_self, List.length_set, Int.natCast_zero, Int.cast_ofNat_Int, hr1, hc2, hr3, hd4, hd5, hx9, hi8', hw10, hi14', hc21d])
            · have hc21d := decide_eq_false hc21
              first | rw [if_neg hc21] at h | rw [if_neg (ne_true_of_eq_false hc21d)] at h | simp only [hc21d, Bool.not_true, Bool.not_false, Bool.false_eq_true, if_true, if_false] at h
              unfold ref35_Needed_J2 at h
              simp (config := { maxSteps := 4000000 }) only [go_sem, Nat.reduceLT, Nat.reduceEqDiff, Nat.reduceAdd, Nat.reduceBEq, Nat.reduceMul, Nat.reduceSub, reduceIte, Nat.reduceLeDiff, reduceCtorEq, Int.reduceNeg, Int.reduceToNat, Int.reduceEq, Int.reduceNe, Int.reduceLT, Int.reduceLE, hr1, hc2, hr3, hd4, hd5, hx9, hi8', hw10, hi14', hc21d]
              repeat' ((with_reducible refine and_bar ?_ ?_); kernel_rfl)
              first | refine ⟨(IntKind.i64.wrap (v5 + (if (IntKind.i64.wrap (x9.Actors - (IntKind.i64.wrap (Int.tdiv r2 ((a0.length : Nat) : Int))))) > 0 then IntKind.i64.wrap (x9.Actors - (IntKind.i64.wrap (Int.tdiv r2 ((a0.length : Nat) : Int)))) else 0))), ?_, h⟩ | refine ⟨hi8', (IntKind.i64.wrap (v5 + (if (IntKind.i64.wrap (x9.Actors - (IntKind.i64.wrap (Int.tdiv r2 ((a0.length : Nat) : Int))))) > 0 then IntKind.i64.wrap (x9.Actors - (IntKind.i64.wrap (Int.tdiv r2 ((a0.length : Nat) : Int)))) else 0))), ?_, h⟩
              refine weak_roots ?_ ?_
              · (repeat' (first | exact weakX_nil | refine weakX_cons ?_ ?_)) <;> (first | rfl | simp only [go_sem, Nat.reduceLT, Nat.reduceEqDiff, Nat.reduceAdd, Nat.reduceBEq, Nat.reduceMul, Nat.reduceSub, reduceIte, Nat.reduceLeDiff, reduceCtorEq, Int.reduceNeg, Int.reduceToNat, Int.reduceEq, Int.reduceNe, Int.reduceLT, Int.reduceLE, Bool.or_self, List.length_set, Int.natCast_zero, Int.cast_ofNat_Int, hr1, hc2, hr3, hd4, hd5, hx9, hi8', hw10, hi14', hc21d])
              · (repeat' (first | exact weakR_nil | refine weakR_cons ?_ ?_ ?_)) <;> (first | rfl | simp only [go_sem, Nat.reduceLT, Nat.reduceEqDiff, Nat.reduceAdd, Nat.reduceBEq, Nat.reduceMul, Nat.reduceSub, reduceIte, Nat.reduceLeDiff, reduceCtorEq, Int.reduceNeg, Int.reduceToNat, Int.reduceEq, Int.reduceNe, Int.reduceLT, Int.reduceLE, Bool.or_self, List.length_set, Int.natCast_zero, Int.cast_ofNat_Int, hr1, hc2, hr3, hd4, hd5, hx9, hi8', hw10, hi14', hc21d])
      · rw [hd11] at h
        simp only [ref35_Needed_L1] at h
        simp (config := { maxSteps := 4000000 }) only [go_sem, Nat.reduceLT, Nat.reduceEqDiff, Nat.reduceAdd, Nat.reduceBEq, Nat.reduceMul, Nat.reduceSub, reduceIte, Nat.reduceLeDiff, reduceCtorEq, Int.reduceNeg, Int.reduceToNat, Int.reduceEq, Int.reduceNe, Int.reduceLT, Int.reduceLE, hr1, hc2, hr3, hd4, hd5, hi8']
        repeat' ((with_reducible refine and_bar ?_ ?_); kernel_rfl)
        refine W_cond_f rfl ?_
        simp (config := { maxSteps := 4000000 }) only [go_sem, Nat.reduceLT, Nat.reduceEqDiff, Nat.reduceAdd, Nat.reduceBEq, Nat.reduceMul, Nat.reduceSub, reduceIte, Nat.reduceLeDiff, reduceCtorEq, Int.reduceNeg, Int.reduceToNat, Int.reduceEq, Int.reduceNe, Int.reduceLT, Int.reduceLE, hr1, hc2, hr3, hd4, hd5, hi8', FinW_ret]
        repeat' ((with_reducible refine and_bar ?_ ?_); kernel_rfl)
        obtain rfl := Option.some.inj h
        exact ⟨_, rfl, (by exact ROk.refl _), (by repeat' (first | exact PureC.val _ | refine PureC.tup ?_ | refine PureC.agg ?_ | exact pure_nil | refine pure_cons ?_ ?_))⟩
def fs_ref35_Needed (N : Nat) : FnS := { own := [], pure := true, fn := fun cs => match cs with
  | [c0] => ((decL 2 Load.dec) c0).bind fun qc0 => (ref35_Needed N qc0).map fun r => .val (.int .i64 r)
  | _ => none }
theorem fs_ref35_Needed_own (N : Nat) : (fs_ref35_Needed N).own = [] := rfl
theorem fs_ref35_Needed_pure (N : Nat) : (fs_ref35_Needed N).pure = true := rfl
attribute [go_sem] fs_ref35_Needed fs_ref35_Needed_own fs_ref35_Needed_pure
theorem fs_ref35_Needed_ok (N : Nat) : FSOk Try.prog 25 (fs_ref35_Needed N) := by
  refine ⟨fun cs r h => ?_, fun h => by cases h⟩
  simp only [fs_ref35_Needed] at h
  split at h
  · simp only [Option.bind_eq_some_iff, Option.map_eq_some_iff] at h
    obtain ⟨q0, h0, r', hr, rfl⟩ := h
    exact ((w_ref35_Needed N q0 r' hr).args (LeL.cons (decL_le Load.dec_le h0) (LeL.nil)))
  · cases h

end Go.Proofs.Ytpbloecedgddlaa
end

section
set_option linter.unusedSimpArgs false
set_option linter.unusedVariables false
set_option maxRecDepth 100000
namespace Go.Proofs.Ytpbloecedgddlaa
open Go Go.Proofs Go.Abs
noncomputable def E_ref35_Plan (N : Nat) : Env := { T := tiOf Try.prog, G := fun d f => if d = 8 ∧ f = 15 then some (fs_ref35_Valid N) else if d = 14 ∧ f = 37 then some (fs_ref35_most N) else if d = 16 ∧ f = 32 then some (fs_ref35_least N) else none }
theorem E_ref35_Plan_T (N : Nat) : (E_ref35_Plan N).T = tiOf Try.prog := rfl
theorem E_ref35_Plan_G0 (N : Nat) : (E_ref35_Plan N).G 8 15 = some (fs_ref35_Valid N) := rfl
theorem E_ref35_Plan_G1 (N : Nat) : (E_ref35_Plan N).G 14 37 = some (fs_ref35_most N) := rfl
theorem E_ref35_Plan_G2 (N : Nat) : (E_ref35_Plan N).G 16 32 = some (fs_ref35_least N) := rfl
theorem E_ref35_Plan_ok (N : Nat) : GOk Try.prog { T := tiOf Try.prog, G := (E_ref35_Plan N).G } := by
  intro d f fs hfs
  simp only [E_ref35_Plan] at hfs
  by_cases hc : d = 8 ∧ f = 15
  · rw [if_pos hc] at hfs; obtain ⟨rfl, rfl⟩ := hc; obtain rfl := Option.some.inj hfs; exact fs_ref35_Valid_ok N
  rw [if_neg hc] at hfs
  by_cases hc : d = 14 ∧ f = 37
  · rw [if_pos hc] at hfs; obtain ⟨rfl, rfl⟩ := hc; obtain rfl := Option.some.inj hfs; exact fs_ref35_most_ok N
  rw [if_neg hc] at hfs
  by_cases hc : d = 16 ∧ f = 32
  · rw [if_pos hc] at hfs; obtain ⟨rfl, rfl⟩ := hc; obtain rfl := Option.some.inj hfs; exact fs_ref35_least_ok N
  rw [if_neg hc] at hfs
  cases hfs
theorem fo_ref35_Plan : FunOk Try.prog 28 Try.f28 Try.f28.body.get! := ⟨Try.func28, rfl, by decide, by kernel_rfl⟩
attribute [go_sem] E_ref35_Plan_T E_ref35_Plan_G0 E_ref35_Plan_G1 E_ref35_Plan_G2
set_option maxHeartbeats 4000000 in
theorem w_ref35_Plan (N : Nat) (a0 : (List Load)) (r : (List LoadMove)) (h : ref35_Plan N a0 = some r) : Con Try.prog 28 [] true [.sl false none 2 none (a0.map Load.row)] (.sl true none 2 none (r.map LoadMove.row)) := by
  refine fun_ok2 (E := E_ref35_Plan N) (tiOf_ok Try.prog _) (E_ref35_Plan_ok N) mix fo_ref35_Plan (Nat.le_of_ble_eq_true rfl) ?_
  intro _
  rw [entry_tab (by simp)]
  rw [show entryF [] [.sl false none 2 none (a0.map Load.row)] = (updT deadT 0 (.sl false none 2 none (a0.map Load.row))) from by funext t; match t with | 0 => rfl | t + 1 => rfl]
  apply W_start
  simp only [Try.f28, Option.get!, R0_RZ]
  unfold ref35_Plan at h
  obtain ⟨r1, hr1, h⟩ := Option.bind_eq_some_iff.1 h
  simp (config := { maxSteps := 4000000 }) only [go_sem, Nat.reduceLT, Nat.reduceEqDiff, Nat.reduceAdd, Nat.reduceBEq, Nat.reduceMul, Nat.reduceSub, reduceIte, Nat.reduceLeDiff, reduceCtorEq, Int.reduceNeg, Int.reduceToNat, Int.reduceEq, Int.reduceNe, Int.reduceLT, Int.reduceLE, hr1]
  repeat' ((with_reducible refine and_bar ?_ ?_); kernel_rfl)
  refine W_cond_nbool rfl (fun hc2 => ?_) (fun hc2 => ?_)
  · first | rw [if_neg (ne_true_of_eq_false hc2)] at h | simp only [hc2, Bool.not_true, Bool.not_false, Bool.false_eq_true, if_true, if_false] at h
    simp (config := { maxSteps := 4000000 }) only [go_sem, Nat.reduceLT, Nat.reduceEqDiff, Nat.reduceAdd, Nat.reduceBEq, Nat.reduceMul, Nat.reduceSub, reduceIte, Nat.reduceLeDiff, reduceCtorEq, Int.reduceNeg, Int.reduceToNat, Int.reduceEq, Int.reduceNe, Int.reduceLT, Int.reduceLE, hr1, hc2, FinW_ret]
    repeat' ((with_reducible refine and_bar ?_ ?_); kernel_rfl)
    obtain rfl := Option.some.inj h
    exact ⟨_, rfl, (by repeat' (first | exact ROk.refl _ | exact ROk.nil _ | ((refine ROk.of _ ?_ ?_); (focus ((repeat' (first | exact Le.refl _ | exact LeL.nil | exact Le.nils | exact LeLL.refl _ | refine LeLL.mapAppend ?_ ?_ | refine LeLL.cons ?_ ?_ | refine Le.sl ?_ | refine Le.tup ?_ | refine Le.agg ?_ | refine LeL.cons ?_ ?_)); done)); (focus ((repeat' (first | exact NoOwn.val _ | exact NoOwn.sl _ _ _ _ | refine NoOwn.tup ?_ | refine NoOwn.agg ?_ | exact noOwn_nil | refine noOwn_cons ?_ ?_)); done))) | ((refine ROk.own ?_ ?_); (focus ((repeat' (first | exact Le.refl _ | exact LeL.nil | exact Le.nils | exact LeLL.refl _ | refine LeLL.mapAppend ?_ ?_ | refine LeLL.cons ?_ ?_ | refine Le.sl ?_ | refine Le.tup ?_ | refine Le.agg ?_ | refine LeL.cons ?_ ?_)); done)); (focus ((first | exact RowOk.noOwn Load.row_ok _ | exact RowOk.noOwn LoadMove.row_ok _); done))) | refine ROk.agg rfl ?_ | refine ROk.tup rfl ?_ | exact rok_nil | refine rok_cons ?_ ?_)), (by (repeat' (first | exact PureC.val _ | refine PureC.tup ?_ | refine PureC.agg ?_ | exact pure_nil | refine pure_cons ?_ ?_ | refine PureC.sl ?_ | exact pure_rows Load.row_pure _ | exact pure_rows LoadMove.row_pure _ |  exact pure_rows_nil | refine pure_rows_append ?_ ?_ | refine pure_rows_cons ?_ ?_)))⟩
  · first | rw [if_pos hc2] at h | simp only [hc2, Bool.not_true, Bool.not_false, Bool.false_eq_true, if_true, if_false] at h
    first | obtain ⟨ha3, h⟩ := apn_some h | (obtain ⟨ha3, h⟩ := apx_some h; rw [List.nil_append] at h)
    simp only [List.length_cons, List.length_nil, Nat.zero_add, Nat.add_zero, Nat.reduceAdd] at ha3
    simp (config := { maxSteps := 4000000 }) only [go_sem, Nat.reduceLT, Nat.reduceEqDiff, Nat.reduceAdd, Nat.reduceBEq, Nat.reduceMul, Nat.reduceSub, reduceIte, Nat.reduceLeDiff, reduceCtorEq, Int.reduceNeg, Int.reduceToNat, Int.reduceEq, Int.reduceNe, Int.reduceLT, Int.reduceLE, hr1, hc2, ha3]
    repeat' ((with_reducible refine and_bar ?_ ?_); kernel_rfl)
    refine W_fuel (fun (b : List Load × List LoadMove) => ⟨tab 60 (updT (updT deadT 3 (.pal 12 [] 0 b.1.length none)) 4 (.pal 59 [] 0 b.2.length none)), (upd (upd RZ 12 (.sl true none 2 none (b.1.map Load.row))) 59 (.sl true none 2 none (b.2.map LoadMove.row)))⟩) (a0, []) h ?_ ?_
    · refine Weak.trans (weak_adopt 4 59 2 (by simp only [go_sem, Nat.reduceLT, Nat.reduceEqDiff, Nat.reduceAdd, Nat.reduceBEq, Nat.reduceMul, Nat.reduceSub, reduceIte, Nat.reduceLeDiff, reduceCtorEq, Int.reduceNeg, Int.reduceToNat, Int.reduceEq, Int.reduceNe, Int.reduceLT, Int.reduceLE, Bool.or_self, List.length_set, Int.natCast_zero, Int.cast_ofNat_Int, hr1, hc2, ha3]) (by simp only [go_sem, Nat.reduceLT, Nat.reduceEqDiff, Nat.reduceAdd, Nat.reduceBEq, Nat.reduceMul, Nat.reduceSub, reduceIte, Nat.reduceLeDiff, reduceCtorEq, Int.reduceNeg, Int.reduceToNat, Int.reduceEq, Int.reduceNe, Int.reduceLT, Int.reduceLE, Bool.or_self, List.length_set, Int.natCast_zero, Int.cast_ofNat_Int, hr1, hc2, ha3])) ?_
      refine weak_roots ?_ ?_
      · (repeat' (first | exact weakX_nil | refine weakX_cons ?_ ?_)) <;> (first | rfl | simp only [go_sem, Nat.reduceLT, Nat.reduceEqDiff, Nat.reduceAdd, Nat.reduceBEq, Nat.reduceMul, Nat.reduceSub, reduceIte, Nat.reduceLeDiff, reduceCtorEq, Int.reduceNeg, Int.reduceToNat, Int.reduceEq, Int.reduceNe, Int.reduceLT, Int.reduceLE, Bool.or_self, List.length_set, Int.natCast_zero, Int.cast_ofNat_Int, hr1, hc2, ha3])
      · (repeat' (first | exact weakR_nil | refine weakR_cons ?_ ?_ ?_)) <;> (first | rfl | simp only [go_sem, Nat.reduceLT, Nat.reduceEqDiff, Nat.reduceAdd, Nat.reduceBEq, Nat.reduceMul, Nat.reduceSub, reduceIte, Nat.reduceLeDiff, reduceCtorEq, Int.reduceNeg, Int.reduceToNat, Int.reduceEq, Int.reduceNe, Int.reduceLT, Int.reduceLE, Bool.or_self, List.length_set, Int.natCast_zero, Int.cast_ofNat_Int, hr1, hc2, ha3])
    · rintro n ⟨l3, l4⟩ h -
      cases n with
      | zero => simp [ref35_Plan_L1] at h
      | succ n =>
      simp only [ref35_Plan_L1] at h
      obtain ⟨r2, hr4, h⟩ := Option.bind_eq_some_iff.1 h
      obtain ⟨r3, hr5, h⟩ := Option.bind_eq_some_iff.1 h
      obtain ⟨x4, hb6, hx7, h⟩ := gx_some h
      obtain ⟨x5, hb8, hx9, h⟩ := gx_some h
      simp (config := { maxSteps := 4000000 }) only [go_sem, Nat.reduceLT, Nat.reduceEqDiff, Nat.reduceAdd, Nat.reduceBEq, Nat.reduceMul, Nat.reduceSub, reduceIte, Nat.reduceLeDiff, reduceCtorEq, Int.reduceNeg, Int.reduceToNat, Int.reduceEq, Int.reduceNe, Int.reduceLT, Int.reduceLE, hr1, hc2, ha3, hr4, hr5, hb6, hx7, hb8, hx9]
      repeat' ((with_reducible refine and_bar ?_ ?_); kernel_rfl)
      refine W_cond_dec rfl (fun hc10 => ?_) (fun hc10 => ?_)
      · have hc10d := decide_eq_true hc10
        first | rw [if_pos hc10] at h | rw [if_pos hc10d] at h | simp only [hc10d, Bool.not_true, Bool.not_false, Bool.false_eq_true, if_true, if_false] at h
        simp (config := { maxSteps := 4000000 }) only [go_sem, Nat.reduceLT, Nat.reduceEqDiff, Nat.reduceAdd, Nat.reduceBEq, Nat.reduceMul, Nat.reduceSub, reduceIte, Nat.reduceLeDiff, reduceCtorEq, Int.reduceNeg, Int.reduceToNat, Int.reduceEq, Int.reduceNe, Int.reduceLT, Int.reduceLE, hr1, hc2, ha3, hr4, hr5, hb6, hx7, hb8, hx9, hc10d, FinW_ret]
        repeat' ((with_reducible refine and_bar ?_ ?_); kernel_rfl)
        obtain rfl := Option.some.inj h
        exact ⟨_, rfl, (by repeat' (first | exact ROk.refl _ | exact ROk.nil _ | ((refine ROk.of _ ?_ ?_); (focus ((repeat' (first | exact Le.refl _ | exact LeL.nil | exact Le.nils | exact LeLL.refl _ | refine LeLL.mapAppend ?_ ?_ | refine LeLL.cons ?_ ?_ | refine Le.sl ?_ | refine Le.tup ?_ | refine Le.agg ?_ | refine LeL.cons ?_ ?_)); done)); (focus ((repeat' (first | exact NoOwn.val _ | exact NoOwn.sl _ _ _ _ | refine NoOwn.tup ?_ | refine NoOwn.agg ?_ | exact noOwn_nil | refine noOwn_cons ?_ ?_)); done))) | ((refine ROk.own ?_ ?_); (focus ((repeat' (first | exact Le.refl _ | exact LeL.nil | exact Le.nils | exact LeLL.refl _ | refine LeLL.mapAppend ?_ ?_ | refine LeLL.cons ?_ ?_ | refine Le.sl ?_ | refine Le.tup ?_ | refine Le.agg ?_ | refine LeL.cons ?_ ?_)); done)); (focus ((first | exact RowOk.noOwn Load.row_ok _ | exact RowOk.noOwn LoadMove.row_ok _); done))) | refine ROk.agg rfl ?_ | refine ROk.tup rfl ?_ | exact rok_nil | refine rok_cons ?_ ?_)), (by (repeat' (first | exact PureC.val _ | refine PureC.tup ?_ | refine PureC.agg ?_ | exact pure_nil | refine pure_cons ?_ ?_ | refine PureC.sl ?_ | exact pure_rows Load.row_pure _ | exact pure_rows LoadMove.row_pure _ |  exact pure_rows_nil | refine pure_rows_append ?_ ?_ | refine pure_rows_cons ?_ ?_)))⟩
      · have hc10d := decide_eq_false hc10
        first | rw [if_neg hc10] at h | rw [if_neg (ne_true_of_eq_false hc10d)] at h | simp only [hc10d, Bool.not_true, Bool.not_false, Bool.false_eq_true, if_true, if_false] at h
        have hx12 := set_get (y := (Load.mk x4.Member (IntKind.i64.wrap (x4.Actors - 1)))) hx7
        obtain ⟨x6, hb13, hx14, h⟩ := gx_some h
        have hx16 := set_get (y := (Load.mk x6.Member (IntKind.i64.wrap (x6.Actors + 1)))) hx14
        obtain ⟨x7, hb17, hx18, h⟩ := gx_some h
        obtain ⟨ha19, h⟩ := apx_some h
        simp only [List.length_cons, List.length_nil, Nat.zero_add, Nat.add_zero, Nat.reduceAdd] at ha19
        simp (config := { maxSteps := 4000000 }) only [go_sem, Nat.reduceLT, Nat.reduceEqDiff, Nat.reduceAdd, Nat.reduceBEq, Nat.reduceMul, Nat.reduceSub, reduceIte, Nat.reduceLeDiff, reduceCtorEq, Int.reduceNeg, Int.reduceToNat, Int.reduceEq, Int.reduceNe, Int.reduceLT, Int.reduceLE, hr1, hc2, ha3, hr4, hr5, hb6, hx7, hb8, hx9, hc10d, map_modify2 (row := Load.row) (y := (Load.mk x4.Member (IntKind.i64.wrap (x4.Actors - 1)))) (rx := [.val (.int .i64 x4.Member), .val (.int .i64 x4.Actors)]) (ry := [.val (.int .i64 x4.Member), .val (.int .i64 (IntKind.i64.wrap (x4.Actors - 1)))]) hx7 rfl rfl, hx12, hb13, hx14, map_modify2 (row := Load.row) (y := (Load.mk x6.Member (IntKind.i64.wrap (x6.Actors + 1)))) (rx := [.val (.int .i64 x6.Member), .val (.int .i64 x6.Actors)]) (ry := [.val (.int .i64 x6.Member), .val (.int .i64 (IntKind.i64.wrap (x6.Actors + 1)))]) hx14 rfl rfl, hx16, hb17, hx18, ha19]
        repeat' ((with_reducible refine and_bar ?_ ?_); kernel_rfl)
        refine ⟨_, Nat.lt_succ_self _, (((l3.set ((r2).toNat) (Load.mk x4.Member (IntKind.i64.wrap (x4.Actors - 1)))).set ((r3).toNat) (Load.mk x6.Member (IntKind.i64.wrap (x6.Actors + 1)))), (l4 ++ [(LoadMove.mk x7.Member x6.Member)])), ?_, h⟩
        refine weak_roots ?_ ?_
        · (repeat' (first | exact weakX_nil | refine weakX_cons ?_ ?_)) <;> (first | rfl | simp only [go_sem, Nat.reduceLT, Nat.reduceEqDiff, Nat.reduceAdd, Nat.reduceBEq, Nat.reduceMul, Nat.reduceSub, reduceIte, Nat.reduceLeDiff, reduceCtorEq, Int.reduceNeg, Int.reduceToNat, Int.reduceEq, Int.reduceNe, Int.reduceLT, Int.reduceLE, Bool.or_self, List.length_set, Int.natCast_zero, Int.cast_ofNat_Int, hr1, hc2, ha3, hr4, hr5, hb6, hx7, hb8, hx9, hc10d, map_modify2 (row := Load.row) (y := (Load.mk x4.Member (IntKind.i64.wrap (x4.Actors - 1)))) (rx := [.val (.int .i64 x4.Member), .val (.int .i64 x4.Actors)]) (ry := [.val (.int .i64 x4.Member), .val (.int .i64 (IntKind.i64.wrap (x4.Actors - 1)))]) hx7 rfl rfl, hx12, hb13, hx14, map_modify2 (row := Load.row) (y := (Load.mk x6.Member (IntKind.i64.wrap (x6.Actors + 1)))) (rx := [.val (.int .i64 x6.Member), .val (.int .i64 x6.Actors)]) (ry := [.val (.int .i64 x6.Member), .val (.int .i64 (IntKind.i64.wrap (x6.Actors + 1)))]) hx14 rfl rfl, hx16, hb17, hx18, ha19])
        · (repeat' (first | exact weakR_nil | refine weakR_cons ?_ ?_ ?_)) <;> (first | rfl | simp only [go_sem, Nat.reduceLT, Nat.reduceEqDiff, Nat.reduceAdd, Nat.reduceBEq, Nat.reduceMul, Nat.reduceSub, reduceIte, Nat.reduceLeDiff, reduceCtorEq, Int.reduceNeg, Int.reduceToNat, Int.reduceEq, Int.reduceNe, Int.reduceLT, Int.reduceLE, Bool.or_self, List.length_set, Int.natCast_zero, Int.cast_ofNat_Int, hr1, hc2, ha3, hr4, hr5, hb6, hx7, hb8, hx9, hc10d, map_modify2 (row := Load.row) (y := (Load.mk x4.Member (IntKind.i64.wrap (x4.Actors - 1)))) (rx := [.val (.int .i64 x4.Member), .val (.int .i64 x4.Actors)]) (ry := [.val (.int .i64 x4.Member), .val (.int .i64 (IntKind.i64.wrap (x4.Actors - 1)))]) hx7 rfl rfl, hx12, hb13, hx14, map_modify2 (row := Load.row) (y := (Load.mk x6.Member (IntKind.i64.wrap (x6.Actors + 1)))) (rx := [.val (.int .i64 x6.Member), .val (.int .i64 x6.Actors)]) (ry := [.val (.int .i64 x6.Member), .val (.int .i64 (IntKind.i64.wrap (x6.Actors + 1)))]) hx14 rfl rfl, hx16, hb17, hx18, ha19])
def fs_ref35_Plan (N : Nat) : FnS := { own := [], pure := true, fn := fun cs => match cs with
  | [c0] => ((decL 2 Load.dec) c0).bind fun qc0 => (ref35_Plan N qc0).map fun r => .sl false none 2 none (r.map LoadMove.row)
  | _ => none }
theorem fs_ref35_Plan_own (N : Nat) : (fs_ref35_Plan N).own = [] := rfl
theorem fs_ref35_Plan_pure (N : Nat) : (fs_ref35_Plan N).pure = true := rfl
attribute [go_sem] fs_ref35_Plan fs_ref35_Plan_own fs_ref35_Plan_pure
theorem fs_ref35_Plan_ok (N : Nat) : FSOk Try.prog 28 (fs_ref35_Plan N) := by
  refine ⟨fun cs r h => ?_, fun h => by cases h⟩
  simp only [fs_ref35_Plan] at h
  split at h
  · simp only [Option.bind_eq_some_iff, Option.map_eq_some_iff] at h
    obtain ⟨q0, h0, r', hr, rfl⟩ := h
    exact (((w_ref35_Plan N q0 r' hr).args (LeL.cons (decL_le Load.dec_le h0) (LeL.nil))).res (by repeat' (first | exact ROk.refl _ | exact ROk.nil _ | ((refine ROk.of _ ?_ ?_); (focus ((repeat' (first | exact Le.refl _ | exact LeL.nil | exact Le.nils | exact LeLL.refl _ | refine LeLL.mapAppend ?_ ?_ | refine LeLL.cons ?_ ?_ | refine Le.sl ?_ | refine Le.tup ?_ | refine Le.agg ?_ | refine LeL.cons ?_ ?_)); done)); (focus ((repeat' (first | exact NoOwn.val _ | exact NoOwn.sl _ _ _ _ | refine NoOwn.tup ?_ | refine NoOwn.agg ?_ | exact noOwn_nil | refine noOwn_cons ?_ ?_)); done))) | ((refine ROk.own ?_ ?_); (focus ((repeat' (first | exact Le.refl _ | exact LeL.nil | exact Le.nils | exact LeLL.refl _ | refine LeLL.mapAppend ?_ ?_ | refine LeLL.cons ?_ ?_ | refine Le.sl ?_ | refine Le.tup ?_ | refine Le.agg ?_ | refine LeL.cons ?_ ?_)); done)); (focus ((first | exact RowOk.noOwn Load.row_ok _ | exact RowOk.noOwn LoadMove.row_ok _); done))) | refine ROk.agg rfl ?_ | refine ROk.tup rfl ?_ | exact rok_nil | refine rok_cons ?_ ?_)))
  · cases h

def fso_ref35_Plan (N : Nat) : FnS := { own := [], pure := true, fn := fun cs => match cs with
  | [c0] => ((decL 2 Load.dec) c0).bind fun qc0 => (ref35_Plan N qc0).map fun r => .sl true none 2 none (r.map LoadMove.row)
  | _ => none }
theorem fso_ref35_Plan_own (N : Nat) : (fso_ref35_Plan N).own = [] := rfl
theorem fso_ref35_Plan_pure (N : Nat) : (fso_ref35_Plan N).pure = true := rfl
attribute [go_sem] fso_ref35_Plan fso_ref35_Plan_own fso_ref35_Plan_pure
theorem fso_ref35_Plan_ok (N : Nat) : FSOk Try.prog 28 (fso_ref35_Plan N) := by
  refine ⟨fun cs r h => ?_, fun h => by cases h⟩
  simp only [fso_ref35_Plan] at h
  split at h
  · simp only [Option.bind_eq_some_iff, Option.map_eq_some_iff] at h
    obtain ⟨q0, h0, r', hr, rfl⟩ := h
    exact ((w_ref35_Plan N q0 r' hr).args (LeL.cons (decL_le Load.dec_le h0) (LeL.nil)))
  · cases h

end Go.Proofs.Ytpbloecedgddlaa
end

section
set_option linter.unusedSimpArgs false
set_option linter.unusedVariables false
set_option maxRecDepth 100000
namespace Go.Proofs.Ytpbloecedgddlaa
open Go Go.Proofs Go.Abs
noncomputable def E_ref35_SameMoves (N : Nat) : Env := { T := tiOf Try.prog, G := fun d f => none }
theorem E_ref35_SameMoves_T (N : Nat) : (E_ref35_SameMoves N).T = tiOf Try.prog := rfl
theorem E_ref35_SameMoves_ok (N : Nat) : GOk Try.prog { T := tiOf Try.prog, G := (E_ref35_SameMoves N).G } := by
  intro d f fs hfs
  cases hfs
theorem fo_ref35_SameMoves : FunOk Try.prog 26 Try.f26 Try.f26.body.get! := ⟨Try.func26, rfl, by decide, by kernel_rfl⟩
attribute [go_sem] E_ref35_SameMoves_T
set_option maxHeartbeats 4000000 in
theorem w_ref35_SameMoves (N : Nat) (a0 : (List LoadMove)) (a1 : (List LoadMove)) (r : Bool) (h : ref35_SameMoves N a0 a1 = some r) : Con Try.prog 26 [] true [.sl false none 2 none (a0.map LoadMove.row), .sl false none 2 none (a1.map LoadMove.row)] (.val (.bool r)) := by
  refine fun_ok2 (E := E_ref35_SameMoves N) (tiOf_ok Try.prog _) (E_ref35_SameMoves_ok N) mix fo_ref35_SameMoves (Nat.le_of_ble_eq_true rfl) ?_
  intro _
  rw [entry_tab (by simp)]
  rw [show entryF [] [.sl false none 2 none (a0.map LoadMove.row), .sl false none 2 none (a1.map LoadMove.row)] = (updT (updT deadT 0 (.sl false none 2 none (a0.map LoadMove.row))) 1 (.sl false none 2 none (a1.map LoadMove.row))) from by funext t; match t with | 0 => rfl | 1 => rfl | t + 2 => rfl]
  apply W_start
  simp only [Try.f26, Option.get!, R0_RZ]
  unfold ref35_SameMoves at h
  simp (config := { maxSteps := 4000000 }) only [go_sem, Nat.reduceLT, Nat.reduceEqDiff, Nat.reduceAdd, Nat.reduceBEq, Nat.reduceMul, Nat.reduceSub, reduceIte, Nat.reduceLeDiff, reduceCtorEq, Int.reduceNeg, Int.reduceToNat, Int.reduceEq, Int.reduceNe, Int.reduceLT, Int.reduceLE]
  repeat' ((with_reducible refine and_bar ?_ ?_); kernel_rfl)
  refine W_cond_ndec rfl (fun hc1 => ?_) (fun hc1 => ?_)
  · have hc1d := decide_eq_false hc1
    first | rw [if_neg hc1] at h | rw [if_neg (ne_true_of_eq_false hc1d)] at h | simp only [hc1d, Bool.not_true, Bool.not_false, Bool.false_eq_true, if_true, if_false] at h
    simp (config := { maxSteps := 4000000 }) only [go_sem, Nat.reduceLT, Nat.reduceEqDiff, Nat.reduceAdd, Nat.reduceBEq, Nat.reduceMul, Nat.reduceSub, reduceIte, Nat.reduceLeDiff, reduceCtorEq, Int.reduceNeg, Int.reduceToNat, Int.reduceEq, Int.reduceNe, Int.reduceLT, Int.reduceLE, hc1d, FinW_ret]
    repeat' ((with_reducible refine and_bar ?_ ?_); kernel_rfl)
    obtain rfl := Option.some.inj h
    exact ⟨_, rfl, (by exact ROk.refl _), (by repeat' (first | exact PureC.val _ | refine PureC.tup ?_ | refine PureC.agg ?_ | exact pure_nil | refine pure_cons ?_ ?_))⟩
  · have hc1d := decide_eq_true hc1
    first | rw [if_pos hc1] at h | rw [if_pos hc1d] at h | simp only [hc1d, Bool.not_true, Bool.not_false, Bool.false_eq_true, if_true, if_false] at h
    simp (config := { maxSteps := 4000000 }) only [go_sem, Nat.reduceLT, Nat.reduceEqDiff, Nat.reduceAdd, Nat.reduceBEq, Nat.reduceMul, Nat.reduceSub, reduceIte, Nat.reduceLeDiff, reduceCtorEq, Int.reduceNeg, Int.reduceToNat, Int.reduceEq, Int.reduceNe, Int.reduceLT, Int.reduceLE, hc1d]
    repeat' ((with_reducible refine and_bar ?_ ?_); kernel_rfl)
    refine W_real fun hreal3 => ?_
    have hl2 := hreal3.lenT 0 (by decide) (by simp only [go_sem, Nat.reduceLT, Nat.reduceEqDiff, Nat.reduceAdd, Nat.reduceBEq, Nat.reduceMul, Nat.reduceSub, reduceIte, Nat.reduceLeDiff, reduceCtorEq, Int.reduceNeg, Int.reduceToNat, Int.reduceEq, Int.reduceNe, Int.reduceLT, Int.reduceLE, Bool.or_self, List.length_set, Int.natCast_zero, Int.cast_ofNat_Int, hc1d]; rfl)
    rw [List.length_map] at hl2
    refine W_range (fun (v3 : Nat) (b : Unit) => ⟨tab 26 (updT (updT (updT deadT 0 (.sl false none 2 none (a0.map LoadMove.row))) 1 (.sl false none 2 none (a1.map LoadMove.row))) 5 (.val (.int .i64 ((v3 : Nat) : Int)))), RZ⟩) () h ?_ ?_
    · refine weak_roots ?_ ?_
      · (repeat' (first | exact weakX_nil | refine weakX_cons ?_ ?_)) <;> (first | rfl | simp only [go_sem, Nat.reduceLT, Nat.reduceEqDiff, Nat.reduceAdd, Nat.reduceBEq, Nat.reduceMul, Nat.reduceSub, reduceIte, Nat.reduceLeDiff, reduceCtorEq, Int.reduceNeg, Int.reduceToNat, Int.reduceEq, Int.reduceNe, Int.reduceLT, Int.reduceLE, Bool.or_self, List.length_set, Int.natCast_zero, Int.cast_ofNat_Int, hc1d])
      · (repeat' (first | exact weakR_nil | refine weakR_cons ?_ ?_ ?_)) <;> (first | rfl | simp only [go_sem, Nat.reduceLT, Nat.reduceEqDiff, Nat.reduceAdd, Nat.reduceBEq, Nat.reduceMul, Nat.reduceSub, reduceIte, Nat.reduceLeDiff, reduceCtorEq, Int.reduceNeg, Int.reduceToNat, Int.reduceEq, Int.reduceNe, Int.reduceLT, Int.reduceLE, Bool.or_self, List.length_set, Int.natCast_zero, Int.cast_ofNat_Int, hc1d])
    · rintro v3 ⟨⟩ hi4 h -
      rcases drop_cases a0 v3 hi4 with ⟨x6, hi4', hx5, hd7⟩ | ⟨hi4', _, hd7⟩
      · rw [hd7] at h
        simp only [ref35_SameMoves_L1] at h
        have hw6 := wrap_succ hi4' hl2
        simp (config := { maxSteps := 4000000 }) only [go_sem, Nat.reduceLT, Nat.reduceEqDiff, Nat.reduceAdd, Nat.reduceBEq, Nat.reduceMul, Nat.reduceSub, reduceIte, Nat.reduceLeDiff, reduceCtorEq, Int.reduceNeg, Int.reduceToNat, Int.reduceEq, Int.reduceNe, Int.reduceLT, Int.reduceLE, hc1d, hx5, hi4', hw6]
        repeat' ((with_reducible refine and_bar ?_ ?_); kernel_rfl)
        refine W_cond_t rfl ?_
        obtain ⟨x1, hb8, hx9, h⟩ := gx_some h
        try simp only [Int.toNat_natCast, Int.reduceToNat, Int.toNat_zero] at hx9
        try simp only [Int.ofNat_lt, Int.natCast_nonneg, true_and] at hb8
        simp (config := { maxSteps := 4000000 }) only [go_sem, Nat.reduceLT, Nat.reduceEqDiff, Nat.reduceAdd, Nat.reduceBEq, Nat.reduceMul, Nat.reduceSub, reduceIte, Nat.reduceLeDiff, reduceCtorEq, Int.reduceNeg, Int.reduceToNat, Int.reduceEq, Int.reduceNe, Int.reduceLT, Int.reduceLE, hc1d, hx5, hi4', hw6, hb8, hx9]
        repeat' ((with_reducible refine and_bar ?_ ?_); kernel_rfl)
        refine W_cond_nbool rfl (fun hc10 => ?_) (fun hc10 => ?_)
        · first | rw [if_neg (ne_true_of_eq_false hc10)] at h | simp only [hc10, Bool.not_true, Bool.not_false, Bool.false_eq_true, if_true, if_false] at h
          simp (config := { maxSteps := 4000000 }) only [go_sem, Nat.reduceLT, Nat.reduceEqDiff, Nat.reduceAdd, Nat.reduceBEq, Nat.reduceMul, Nat.reduceSub, reduceIte, Nat.reduceLeDiff, reduceCtorEq, Int.reduceNeg, Int.reduceToNat, Int.reduceEq, Int.reduceNe, Int.reduceLT, Int.reduceLE, hc1d, hx5, hi4', hw6, hb8, hx9, hc10, FinW_ret]
          repeat' ((with_reducible refine and_bar ?_ ?_); kernel_rfl)
          obtain rfl := Option.some.inj h
          exact ⟨_, rfl, (by exact ROk.refl _), (by repeat' (first | exact PureC.val _ | refine PureC.tup ?_ | refine PureC.agg ?_ | exact pure_nil | refine pure_cons ?_ ?_))⟩
        · first | rw [if_pos hc10] at h | simp only [hc10, Bool.not_true, Bool.not_false, Bool.false_eq_true, if_true, if_false] at h
          simp (config := { maxSteps := 4000000 }) only [go_sem, Nat.reduceLT, Nat.reduceEqDiff, Nat.reduceAdd, Nat.reduceBEq, Nat.reduceMul, Nat.reduceSub, reduceIte, Nat.reduceLeDiff, reduceCtorEq, Int.reduceNeg, Int.reduceToNat, Int.reduceEq, Int.reduceNe, Int.reduceLT, Int.reduceLE, hc1d, hx5, hi4', hw6, hb8, hx9, hc10]
          repeat' ((with_reducible refine and_bar ?_ ?_); kernel_rfl)
          first | refine ⟨(), ?_, h⟩ | refine ⟨hi4', (), ?_, h⟩
          refine weak_roots ?_ ?_
          · (repeat' (first | exact weakX_nil | refine weakX_cons ?_ ?_)) <;> (first | rfl | simp only [go_sem, Nat.reduceLT, Nat.reduceEqDiff, Nat.reduceAdd, Nat.reduceBEq, Nat.reduceMul, Nat.reduceSub, reduceIte, Nat.reduceLeDiff, reduceCtorEq, Int.reduceNeg, Int.reduceToNat, Int.reduceEq, Int.reduceNe, Int.reduceLT, Int.reduceLE, Bool.or_self, List.length_set, Int.natCast_zero, Int.cast_ofNat_Int, hc1d, hx5, hi4', hw6, hb8, hx9, hc10])
          · (repeat' (first | exact weakR_nil | refine weakR_cons ?_ ?_ ?_)) <;> (first | rfl | simp only [go_sem, Nat.reduceLT, Nat.reduceEqDiff, Nat.reduceAdd, Nat.reduceBEq, Nat.reduceMul, Nat.reduceSub, reduceIte, Nat.reduceLeDiff, reduceCtorEq, Int.reduceNeg, Int.reduceToNat, Int.reduceEq, Int.reduceNe, Int.reduceLT, Int.reduceLE, Bool.or_self, List.length_set, Int.natCast_zero, Int.cast_ofNat_Int, hc1d, hx5, hi4', hw6, hb8, hx9, hc10])
      · rw [hd7] at h
        simp only [ref35_SameMoves_L1] at h
        simp (config := { maxSteps := 4000000 }) only [go_sem, Nat.reduceLT, Nat.reduceEqDiff, Nat.reduceAdd, Nat.reduceBEq, Nat.reduceMul, Nat.reduceSub, reduceIte, Nat.reduceLeDiff, reduceCtorEq, Int.reduceNeg, Int.reduceToNat, Int.reduceEq, Int.reduceNe, Int.reduceLT, Int.reduceLE, hc1d, hi4']
        repeat' ((with_reducible refine and_bar ?_ ?_); kernel_rfl)
        refine W_cond_f rfl ?_
        simp (config := { maxSteps := 4000000 }) only [go_sem, Nat.reduceLT, Nat.reduceEqDiff, Nat.reduceAdd, Nat.reduceBEq, Nat.reduceMul, Nat.reduceSub, reduceIte, Nat.reduceLeDiff, reduceCtorEq, Int.reduceNeg, Int.reduceToNat, Int.reduceEq, Int.reduceNe, Int.reduceLT, Int.reduceLE, hc1d, hi4', FinW_ret]
        repeat' ((with_reducible refine and_bar ?_ ?_); kernel_rfl)
        obtain rfl := Option.some.inj h
        exact ⟨_, rfl, (by exact ROk.refl _), (by repeat' (first | exact PureC.val _ | refine PureC.tup ?_ | refine PureC.agg ?_ | exact pure_nil | refine pure_cons ?_ ?_))⟩
def fs_ref35_SameMoves (N : Nat) : FnS := { own := [], pure := true, fn := fun cs => match cs with
  | [c0, c1] => ((decL 2 LoadMove.dec) c0).bind fun qc0 => ((decL 2 LoadMove.dec) c1).bind fun qc1 => (ref35_SameMoves N qc0 qc1).map fun r => .val (.bool r)
  | _ => none }
theorem fs_ref35_SameMoves_own (N : Nat) : (fs_ref35_SameMoves N).own = [] := rfl
theorem fs_ref35_SameMoves_pure (N : Nat) : (fs_ref35_SameMoves N).pure = true := rfl
attribute [go_sem] fs_ref35_SameMoves fs_ref35_SameMoves_own fs_ref35_SameMoves_pure
theorem fs_ref35_SameMoves_ok (N : Nat) : FSOk Try.prog 26 (fs_ref35_SameMoves N) := by
  refine ⟨fun cs r h => ?_, fun h => by cases h⟩
  simp only [fs_ref35_SameMoves] at h
  split at h
  · simp only [Option.bind_eq_some_iff, Option.map_eq_some_iff] at h
    obtain ⟨q0, h0, q1, h1, r', hr, rfl⟩ := h
    exact ((w_ref35_SameMoves N q0 q1 r' hr).args (LeL.cons (decL_le LoadMove.dec_le h0) (LeL.cons (decL_le LoadMove.dec_le h1) (LeL.nil))))
  · cases h

end Go.Proofs.Ytpbloecedgddlaa
end

section
set_option linter.unusedSimpArgs false
set_option linter.unusedVariables false
set_option maxRecDepth 100000
namespace Go.Proofs.Ytpbloecedgddlaa
open Go Go.Proofs Go.Abs
noncomputable def E_law35_BalanceAny (N : Nat) : Env := { T := tiOf Try.prog, G := fun d f => if d = 15 ∧ f = 8 then some (fs_law35_awake N) else if d = 27 ∧ f = 9 then some (fs_balance_Place N) else if d = 33 ∧ f = 10 then some (fs_ref35_Place N) else if d = 40 ∧ f = 11 then some (fs_balance_Apply N) else if d = 46 ∧ f = 12 then some (fs_ref35_Apply N) else if d = 60 ∧ f = 13 then some (fs_ref35_SameLoads N) else if d = 71 ∧ f = 13 then some (fs_ref35_SameLoads N) else if d = 75 ∧ f = 14 then some (fs_balance_Valid N) else if d = 77 ∧ f = 15 then some (fs_ref35_Valid N) else if d = 81 ∧ f = 16 then some (fs_balance_Least N) else if d = 83 ∧ f = 17 then some (fs_ref35_Least N) else if d = 88 ∧ f = 18 then some (fs_balance_Most N) else if d = 90 ∧ f = 19 then some (fs_ref35_Most N) else if d = 95 ∧ f = 20 then some (fs_balance_Spread N) else if d = 97 ∧ f = 21 then some (fs_ref35_Spread N) else if d = 102 ∧ f = 22 then some (fs_balance_Total N) else if d = 104 ∧ f = 23 then some (fs_ref35_Total N) else if d = 109 ∧ f = 24 then some (fs_balance_Needed N) else if d = 111 ∧ f = 25 then some (fs_ref35_Needed N) else if d = 116 ∧ f = 27 then some (fs_balance_Plan N) else if d = 118 ∧ f = 28 then some (fs_ref35_Plan N) else if d = 119 ∧ f = 26 then some (fs_ref35_SameMoves N) else none }
theorem E_law35_BalanceAny_T (N : Nat) : (E_law35_BalanceAny N).T = tiOf Try.prog := rfl
theorem E_law35_BalanceAny_G0 (N : Nat) : (E_law35_BalanceAny N).G 15 8 = some (fs_law35_awake N) := rfl
theorem E_law35_BalanceAny_G1 (N : Nat) : (E_law35_BalanceAny N).G 27 9 = some (fs_balance_Place N) := rfl
theorem E_law35_BalanceAny_G2 (N : Nat) : (E_law35_BalanceAny N).G 33 10 = some (fs_ref35_Place N) := rfl
theorem E_law35_BalanceAny_G3 (N : Nat) : (E_law35_BalanceAny N).G 40 11 = some (fs_balance_Apply N) := rfl
theorem E_law35_BalanceAny_G4 (N : Nat) : (E_law35_BalanceAny N).G 46 12 = some (fs_ref35_Apply N) := rfl
theorem E_law35_BalanceAny_G5 (N : Nat) : (E_law35_BalanceAny N).G 60 13 = some (fs_ref35_SameLoads N) := rfl
theorem E_law35_BalanceAny_G6 (N : Nat) : (E_law35_BalanceAny N).G 71 13 = some (fs_ref35_SameLoads N) := rfl
theorem E_law35_BalanceAny_G7 (N : Nat) : (E_law35_BalanceAny N).G 75 14 = some (fs_balance_Valid N) := rfl
theorem E_law35_BalanceAny_G8 (N : Nat) : (E_law35_BalanceAny N).G 77 15 = some (fs_ref35_Valid N) := rfl
theorem E_law35_BalanceAny_G9 (N : Nat) : (E_law35_BalanceAny N).G 81 16 = some (fs_balance_Least N) := rfl
theorem E_law35_BalanceAny_G10 (N : Nat) : (E_law35_BalanceAny N).G 83 17 = some (fs_ref35_Least N) := rfl
theorem E_law35_BalanceAny_G11 (N : Nat) : (E_law35_BalanceAny N).G 88 18 = some (fs_balance_Most N) := rfl
theorem E_law35_BalanceAny_G12 (N : Nat) : (E_law35_BalanceAny N).G 90 19 = some (fs_ref35_Most N) := rfl
theorem E_law35_BalanceAny_G13 (N : Nat) : (E_law35_BalanceAny N).G 95 20 = some (fs_balance_Spread N) := rfl
theorem E_law35_BalanceAny_G14 (N : Nat) : (E_law35_BalanceAny N).G 97 21 = some (fs_ref35_Spread N) := rfl
theorem E_law35_BalanceAny_G15 (N : Nat) : (E_law35_BalanceAny N).G 102 22 = some (fs_balance_Total N) := rfl
theorem E_law35_BalanceAny_G16 (N : Nat) : (E_law35_BalanceAny N).G 104 23 = some (fs_ref35_Total N) := rfl
theorem E_law35_BalanceAny_G17 (N : Nat) : (E_law35_BalanceAny N).G 109 24 = some (fs_balance_Needed N) := rfl
theorem E_law35_BalanceAny_G18 (N : Nat) : (E_law35_BalanceAny N).G 111 25 = some (fs_ref35_Needed N) := rfl
theorem E_law35_BalanceAny_G19 (N : Nat) : (E_law35_BalanceAny N).G 116 27 = some (fs_balance_Plan N) := rfl
theorem E_law35_BalanceAny_G20 (N : Nat) : (E_law35_BalanceAny N).G 118 28 = some (fs_ref35_Plan N) := rfl
theorem E_law35_BalanceAny_G21 (N : Nat) : (E_law35_BalanceAny N).G 119 26 = some (fs_ref35_SameMoves N) := rfl
theorem E_law35_BalanceAny_ok (N : Nat) : GOk Try.prog { T := tiOf Try.prog, G := (E_law35_BalanceAny N).G } := by
  intro d f fs hfs
  simp only [E_law35_BalanceAny] at hfs
  by_cases hc : d = 15 ∧ f = 8
  · rw [if_pos hc] at hfs; obtain ⟨rfl, rfl⟩ := hc; obtain rfl := Option.some.inj hfs; exact fs_law35_awake_ok N
  rw [if_neg hc] at hfs
  by_cases hc : d = 27 ∧ f = 9
  · rw [if_pos hc] at hfs; obtain ⟨rfl, rfl⟩ := hc; obtain rfl := Option.some.inj hfs; exact fs_balance_Place_ok N
  rw [if_neg hc] at hfs
  by_cases hc : d = 33 ∧ f = 10
  · rw [if_pos hc] at hfs; obtain ⟨rfl, rfl⟩ := hc; obtain rfl := Option.some.inj hfs; exact fs_ref35_Place_ok N
  rw [if_neg hc] at hfs
  by_cases hc : d = 40 ∧ f = 11
  · rw [if_pos hc] at hfs; obtain ⟨rfl, rfl⟩ := hc; obtain rfl := Option.some.inj hfs; exact fs_balance_Apply_ok N
  rw [if_neg hc] at hfs
  by_cases hc : d = 46 ∧ f = 12
  · rw [if_pos hc] at hfs; obtain ⟨rfl, rfl⟩ := hc; obtain rfl := Option.some.inj hfs; exact fs_ref35_Apply_ok N
  rw [if_neg hc] at hfs
  by_cases hc : d = 60 ∧ f = 13
  · rw [if_pos hc] at hfs; obtain ⟨rfl, rfl⟩ := hc; obtain rfl := Option.some.inj hfs; exact fs_ref35_SameLoads_ok N
  rw [if_neg hc] at hfs
  by_cases hc : d = 71 ∧ f = 13
  · rw [if_pos hc] at hfs; obtain ⟨rfl, rfl⟩ := hc; obtain rfl := Option.some.inj hfs; exact fs_ref35_SameLoads_ok N
  rw [if_neg hc] at hfs
  by_cases hc : d = 75 ∧ f = 14
  · rw [if_pos hc] at hfs; obtain ⟨rfl, rfl⟩ := hc; obtain rfl := Option.some.inj hfs; exact fs_balance_Valid_ok N
  rw [if_neg hc] at hfs
  by_cases hc : d = 77 ∧ f = 15
  · rw [if_pos hc] at hfs; obtain ⟨rfl, rfl⟩ := hc; obtain rfl := Option.some.inj hfs; exact fs_ref35_Valid_ok N
  rw [if_neg hc] at hfs
  by_cases hc : d = 81 ∧ f = 16
  · rw [if_pos hc] at hfs; obtain ⟨rfl, rfl⟩ := hc; obtain rfl := Option.some.inj hfs; exact fs_balance_Least_ok N
  rw [if_neg hc] at hfs
  by_cases hc : d = 83 ∧ f = 17
  · rw [if_pos hc] at hfs; obtain ⟨rfl, rfl⟩ := hc; obtain rfl := Option.some.inj hfs; exact fs_ref35_Least_ok N
  rw [if_neg hc] at hfs
  by_cases hc : d = 88 ∧ f = 18
  · rw [if_pos hc] at hfs; obtain ⟨rfl, rfl⟩ := hc; obtain rfl := Option.some.inj hfs; exact fs_balance_Most_ok N
  rw [if_neg hc] at hfs
  by_cases hc : d = 90 ∧ f = 19
  · rw [if_pos hc] at hfs; obtain ⟨rfl, rfl⟩ := hc; obtain rfl := Option.some.inj hfs; exact fs_ref35_Most_ok N
  rw [if_neg hc] at hfs
  by_cases hc : d = 95 ∧ f = 20
  · rw [if_pos hc] at hfs; obtain ⟨rfl, rfl⟩ := hc; obtain rfl := Option.some.inj hfs; exact fs_balance_Spread_ok N
  rw [if_neg hc] at hfs
  by_cases hc : d = 97 ∧ f = 21
  · rw [if_pos hc] at hfs; obtain ⟨rfl, rfl⟩ := hc; obtain rfl := Option.some.inj hfs; exact fs_ref35_Spread_ok N
  rw [if_neg hc] at hfs
  by_cases hc : d = 102 ∧ f = 22
  · rw [if_pos hc] at hfs; obtain ⟨rfl, rfl⟩ := hc; obtain rfl := Option.some.inj hfs; exact fs_balance_Total_ok N
  rw [if_neg hc] at hfs
  by_cases hc : d = 104 ∧ f = 23
  · rw [if_pos hc] at hfs; obtain ⟨rfl, rfl⟩ := hc; obtain rfl := Option.some.inj hfs; exact fs_ref35_Total_ok N
  rw [if_neg hc] at hfs
  by_cases hc : d = 109 ∧ f = 24
  · rw [if_pos hc] at hfs; obtain ⟨rfl, rfl⟩ := hc; obtain rfl := Option.some.inj hfs; exact fs_balance_Needed_ok N
  rw [if_neg hc] at hfs
  by_cases hc : d = 111 ∧ f = 25
  · rw [if_pos hc] at hfs; obtain ⟨rfl, rfl⟩ := hc; obtain rfl := Option.some.inj hfs; exact fs_ref35_Needed_ok N
  rw [if_neg hc] at hfs
  by_cases hc : d = 116 ∧ f = 27
  · rw [if_pos hc] at hfs; obtain ⟨rfl, rfl⟩ := hc; obtain rfl := Option.some.inj hfs; exact fs_balance_Plan_ok N
  rw [if_neg hc] at hfs
  by_cases hc : d = 118 ∧ f = 28
  · rw [if_pos hc] at hfs; obtain ⟨rfl, rfl⟩ := hc; obtain rfl := Option.some.inj hfs; exact fs_ref35_Plan_ok N
  rw [if_neg hc] at hfs
  by_cases hc : d = 119 ∧ f = 26
  · rw [if_pos hc] at hfs; obtain ⟨rfl, rfl⟩ := hc; obtain rfl := Option.some.inj hfs; exact fs_ref35_SameMoves_ok N
  rw [if_neg hc] at hfs
  cases hfs
theorem fo_law35_BalanceAny : FunOk Try.prog 3 Try.f3 Try.f3.body.get! := ⟨Try.func3, rfl, by decide, by kernel_rfl⟩
attribute [go_sem] E_law35_BalanceAny_T E_law35_BalanceAny_G0 E_law35_BalanceAny_G1 E_law35_BalanceAny_G2 E_law35_BalanceAny_G3 E_law35_BalanceAny_G4 E_law35_BalanceAny_G5 E_law35_BalanceAny_G6 E_law35_BalanceAny_G7 E_law35_BalanceAny_G8 E_law35_BalanceAny_G9 E_law35_BalanceAny_G10 E_law35_BalanceAny_G11 E_law35_BalanceAny_G12 E_law35_BalanceAny_G13 E_law35_BalanceAny_G14 E_law35_BalanceAny_G15 E_law35_BalanceAny_G16 E_law35_BalanceAny_G17 E_law35_BalanceAny_G18 E_law35_BalanceAny_G19 E_law35_BalanceAny_G20 E_law35_BalanceAny_G21
set_option maxHeartbeats 4000000 in
theorem w_law35_BalanceAny (N : Nat) (a0 : (List Load)) (a1 : (List LoadMove)) (r : Bool) (h : law35_BalanceAny N a0 a1 = some r) : Con Try.prog 3 [] true [.sl false none 2 none (a0.map Load.row), .sl false none 2 none (a1.map LoadMove.row)] (.val (.bool r)) := by
  refine fun_ok2 (E := E_law35_BalanceAny N) (tiOf_ok Try.prog _) (E_law35_BalanceAny_ok N) mix fo_law35_BalanceAny (Nat.le_of_ble_eq_true rfl) ?_
  intro _
  rw [entry_tab (by simp)]
  rw [show entryF [] [.sl false none 2 none (a0.map Load.row), .sl false none 2 none (a1.map LoadMove.row)] = (updT (updT deadT 0 (.sl false none 2 none (a0.map Load.row))) 1 (.sl false none 2 none (a1.map LoadMove.row))) from by funext t; match t with | 0 => rfl | 1 => rfl | t + 2 => rfl]
  apply W_start
  simp only [Try.f3, Option.get!, R0_RZ]
  unfold law35_BalanceAny at h
  obtain ⟨r1, hr1, h⟩ := Option.bind_eq_some_iff.1 h
  simp (config := { maxSteps := 4000000 }) only [go_sem, Nat.reduceLT, Nat.reduceEqDiff, Nat.reduceAdd, Nat.reduceBEq, Nat.reduceMul, Nat.reduceSub, reduceIte, Nat.reduceLeDiff, reduceCtorEq, Int.reduceNeg, Int.reduceToNat, Int.reduceEq, Int.reduceNe, Int.reduceLT, Int.reduceLE, hr1]
  refine W_cond_nbool rfl (fun hc2 => ?_) (fun hc2 => ?_)
  · first | rw [if_neg (ne_true_of_eq_false hc2)] at h | simp only [hc2, Bool.not_true, Bool.not_false, Bool.false_eq_true, if_true, if_false] at h
    simp (config := { maxSteps := 4000000 }) only [go_sem, Nat.reduceLT, Nat.reduceEqDiff, Nat.reduceAdd, Nat.reduceBEq, Nat.reduceMul, Nat.reduceSub, reduceIte, Nat.reduceLeDiff, reduceCtorEq, Int.reduceNeg, Int.reduceToNat, Int.reduceEq, Int.reduceNe, Int.reduceLT, Int.reduceLE, hr1, hc2, FinW_ret]
    obtain rfl := Option.some.inj h
    exact ⟨_, rfl, (by exact ROk.refl _), (by repeat' (first | exact PureC.val _ | refine PureC.tup ?_ | refine PureC.agg ?_ | exact pure_nil | refine pure_cons ?_ ?_))⟩
  · first | rw [if_pos hc2] at h | simp only [hc2, Bool.not_true, Bool.not_false, Bool.false_eq_true, if_true, if_false] at h
    simp (config := { maxSteps := 4000000 }) only [go_sem, Nat.reduceLT, Nat.reduceEqDiff, Nat.reduceAdd, Nat.reduceBEq, Nat.reduceMul, Nat.reduceSub, reduceIte, Nat.reduceLeDiff, reduceCtorEq, Int.reduceNeg, Int.reduceToNat, Int.reduceEq, Int.reduceNe, Int.reduceLT, Int.reduceLE, hr1, hc2]
    refine RX_guard_dec rfl (fun hc3 => ?_) (fun hc3 => ?_)
    · have hc3d := decide_eq_true hc3
      first | rw [if_pos hc3] at h | rw [if_pos hc3d] at h | simp only [hc3d, Bool.not_true, Bool.not_false, Bool.false_eq_true, if_true, if_false] at h
      unfold law35_BalanceAny_J1 at h
      simp (config := { maxSteps := 4000000 }) only [go_sem, Nat.reduceLT, Nat.reduceEqDiff, Nat.reduceAdd, Nat.reduceBEq, Nat.reduceMul, Nat.reduceSub, reduceIte, Nat.reduceLeDiff, reduceCtorEq, Int.reduceNeg, Int.reduceToNat, Int.reduceEq, Int.reduceNe, Int.reduceLT, Int.reduceLE, hr1, hc2, hc3d]
      refine W_cond_t rfl ?_
      first | rw [if_pos (rfl : true = true)] at h | rw [if_neg Bool.false_ne_true] at h | skip
      simp (config := { maxSteps := 4000000 }) only [go_sem, Nat.reduceLT, Nat.reduceEqDiff, Nat.reduceAdd, Nat.reduceBEq, Nat.reduceMul, Nat.reduceSub, reduceIte, Nat.reduceLeDiff, reduceCtorEq, Int.reduceNeg, Int.reduceToNat, Int.reduceEq, Int.reduceNe, Int.reduceLT, Int.reduceLE, hr1, hc2, hc3d, FinW_ret]
      obtain rfl := Option.some.inj h
      exact ⟨_, rfl, (by exact ROk.refl _), (by repeat' (first | exact PureC.val _ | refine PureC.tup ?_ | refine PureC.agg ?_ | exact pure_nil | refine pure_cons ?_ ?_))⟩
    · have hc3d := decide_eq_false hc3
      first | rw [if_neg hc3] at h | rw [if_neg (ne_true_of_eq_false hc3d)] at h | simp only [hc3d, Bool.not_true, Bool.not_false, Bool.false_eq_true, if_true, if_false] at h
      unfold law35_BalanceAny_J1 at h
      simp (config := { maxSteps := 4000000 }) only [go_sem, Nat.reduceLT, Nat.reduceEqDiff, Nat.reduceAdd, Nat.reduceBEq, Nat.reduceMul, Nat.reduceSub, reduceIte, Nat.reduceLeDiff, reduceCtorEq, Int.reduceNeg, Int.reduceToNat, Int.reduceEq, Int.reduceNe, Int.reduceLT, Int.reduceLE, hr1, hc2, hc3d]
      refine W_cond_dec rfl (fun hc4 => ?_) (fun hc4 => ?_)
      · have hc4d := decide_eq_true hc4
        first | rw [if_pos hc4] at h | rw [if_pos hc4d] at h | simp only [hc4d, Bool.not_true, Bool.not_false, Bool.false_eq_true, if_true, if_false] at h
        simp (config := { maxSteps := 4000000 }) only [go_sem, Nat.reduceLT, Nat.reduceEqDiff, Nat.reduceAdd, Nat.reduceBEq, Nat.reduceMul, Nat.reduceSub, reduceIte, Nat.reduceLeDiff, reduceCtorEq, Int.reduceNeg, Int.reduceToNat, Int.reduceEq, Int.reduceNe, Int.reduceLT, Int.reduceLE, hr1, hc2, hc3d, hc4d, FinW_ret]
        obtain rfl := Option.some.inj h
        exact ⟨_, rfl, (by exact ROk.refl _), (by repeat' (first | exact PureC.val _ | refine PureC.tup ?_ | refine PureC.agg ?_ | exact pure_nil | refine pure_cons ?_ ?_))⟩
      · have hc4d := decide_eq_false hc4
        first | rw [if_neg hc4] at h | rw [if_neg (ne_true_of_eq_false hc4d)] at h | simp only [hc4d, Bool.not_true, Bool.not_false, Bool.false_eq_true, if_true, if_false] at h
        unfold law35_BalanceAny_J4 at h
        obtain ⟨r2, hr5, h⟩ := Option.bind_eq_some_iff.1 h
        obtain ⟨r3, hr6, h⟩ := Option.bind_eq_some_iff.1 h
        obtain ⟨r4, hr7, h⟩ := Option.bind_eq_some_iff.1 h
        obtain ⟨r5, hr8, h⟩ := Option.bind_eq_some_iff.1 h
        simp (config := { maxSteps := 4000000 }) only [go_sem, Nat.reduceLT, Nat.reduceEqDiff, Nat.reduceAdd, Nat.reduceBEq, Nat.reduceMul, Nat.reduceSub, reduceIte, Nat.reduceLeDiff, reduceCtorEq, Int.reduceNeg, Int.reduceToNat, Int.reduceEq, Int.reduceNe, Int.reduceLT, Int.reduceLE, hr1, hc2, hc3d, hc4d, hr5, hr6, hr7, hr8]
        refine RX_guard_ndec rfl (fun hc9 => ?_) (fun hc9 => ?_)
        · have hc9d := decide_eq_false hc9
          first | rw [if_neg hc9] at h | rw [if_neg (ne_true_of_eq_false hc9d)] at h | simp only [hc9d, Bool.not_true, Bool.not_false, Bool.false_eq_true, if_true, if_false] at h
          unfold law35_BalanceAny_J2 at h
          simp (config := { maxSteps := 4000000 }) only [go_sem, Nat.reduceLT, Nat.reduceEqDiff, Nat.reduceAdd, Nat.reduceBEq, Nat.reduceMul, Nat.reduceSub, reduceIte, Nat.reduceLeDiff, reduceCtorEq, Int.reduceNeg, Int.reduceToNat, Int.reduceEq, Int.reduceNe, Int.reduceLT, Int.reduceLE, hr1, hc2, hc3d, hc4d, hr5, hr6, hr7, hr8, hc9d]
          refine W_cond_t rfl ?_
          first | rw [if_pos (rfl : true = true)] at h | rw [if_neg Bool.false_ne_true] at h | skip
          simp (config := { maxSteps := 4000000 }) only [go_sem, Nat.reduceLT, Nat.reduceEqDiff, Nat.reduceAdd, Nat.reduceBEq, Nat.reduceMul, Nat.reduceSub, reduceIte, Nat.reduceLeDiff, reduceCtorEq, Int.reduceNeg, Int.reduceToNat, Int.reduceEq, Int.reduceNe, Int.reduceLT, Int.reduceLE, hr1, hc2, hc3d, hc4d, hr5, hr6, hr7, hr8, hc9d, FinW_ret]
          obtain rfl := Option.some.inj h
          exact ⟨_, rfl, (by exact ROk.refl _), (by repeat' (first | exact PureC.val _ | refine PureC.tup ?_ | refine PureC.agg ?_ | exact pure_nil | refine pure_cons ?_ ?_))⟩
        · have hc9d := decide_eq_true hc9
          first | rw [if_pos hc9] at h | rw [if_pos hc9d] at h | simp only [hc9d, Bool.not_true, Bool.not_false, Bool.false_eq_true, if_true, if_false] at h
          simp (config := { maxSteps := 4000000 }) only [go_sem, Nat.reduceLT, Nat.reduceEqDiff, Nat.reduceAdd, Nat.reduceBEq, Nat.reduceMul, Nat.reduceSub, reduceIte, Nat.reduceLeDiff, reduceCtorEq, Int.reduceNeg, Int.reduceToNat, Int.reduceEq, Int.reduceNe, Int.reduceLT, Int.reduceLE, hr1, hc2, hc3d, hc4d, hr5, hr6, hr7, hr8, hc9d]
          refine RX_guard_ndec rfl (fun hc10 => ?_) (fun hc10 => ?_)
          · have hc10d := decide_eq_false hc10
            first | rw [if_neg hc10] at h | rw [if_neg (ne_true_of_eq_false hc10d)] at h | simp only [hc10d, Bool.not_true, Bool.not_false, Bool.false_eq_true, if_true, if_false] at h
            unfold law35_BalanceAny_J2 at h
            simp (config := { maxSteps := 4000000 }) only [go_sem, Nat.reduceLT, Nat.reduceEqDiff, Nat.reduceAdd, Nat.reduceBEq, Nat.reduceMul, Nat.reduceSub, reduceIte, Nat.reduceLeDiff, reduceCtorEq, Int.reduceNeg, Int.reduceToNat, Int.reduceEq, Int.reduceNe, Int.reduceLT, Int.reduceLE, hr1, hc2, hc3d, hc4d, hr5, hr6, hr7, hr8, hc9d, hc10d]
            refine W_cond_t rfl ?_
            first | rw [if_pos (rfl : true = true)] at h | rw [if_neg Bool.false_ne_true] at h | skip
            simp (config := { maxSteps := 4000000 }) only [go_sem, Nat.reduceLT, Nat.reduceEqDiff, Nat.reduceAdd, Nat.reduceBEq, Nat.reduceMul, Nat.reduceSub, reduceIte, Nat.reduceLeDiff, reduceCtorEq, Int.reduceNeg, Int.reduceToNat, Int.reduceEq, Int.reduceNe, Int.reduceLT, Int.reduceLE, hr1, hc2, hc3d, hc4d, hr5, hr6, hr7, hr8, hc9d, hc10d, FinW_ret]
            obtain rfl := Option.some.inj h
            exact ⟨_, rfl, (by exact ROk.refl _), (by repeat' (first | exact PureC.val _ | refine PureC.tup ?_ | refine PureC.agg ?_ | exact pure_nil | refine pure_cons ?_ ?_))⟩
          · have hc10d := decide_eq_true hc10
            first | rw [if_pos hc10] at h | rw [if_pos hc10d] at h | simp only [hc10d, Bool.not_true, Bool.not_false, Bool.false_eq_true, if_true, if_false] at h
            obtain ⟨r6, hr11, h⟩ := Option.bind_eq_some_iff.1 h
            simp (config := { maxSteps := 4000000 }) only [go_sem, Nat.reduceLT, Nat.reduceEqDiff, Nat.reduceAdd, Nat.reduceBEq, Nat.reduceMul, Nat.reduceSub, reduceIte, Nat.reduceLeDiff, reduceCtorEq, Int.reduceNeg, Int.reduceToNat, Int.reduceEq, Int.reduceNe, Int.reduceLT, Int.reduceLE, hr1, hc2, hc3d, hc4d, hr5, hr6, hr7, hr8, hc9d, hc10d, hr11]
            refine RX_guard_nbool rfl (fun hc12 => ?_) (fun hc12 => ?_)
            · first | rw [if_neg (ne_true_of_eq_false hc12)] at h | simp only [hc12, Bool.not_true, Bool.not_false, Bool.false_eq_true, if_true, if_false] at h
              unfold law35_BalanceAny_J2 at h
              simp (config := { maxSteps := 4000000 }) only [go_sem, Nat.reduceLT, Nat.reduceEqDiff, Nat.reduceAdd, Nat.reduceBEq, Nat.reduceMul, Nat.reduceSub, reduceIte, Nat.reduceLeDiff, reduceCtorEq, Int.reduceNeg, Int.reduceToNat, Int.reduceEq, Int.reduceNe, Int.reduceLT, Int.reduceLE, hr1, hc2, hc3d, hc4d, hr5, hr6, hr7, hr8, hc9d, hc10d, hr11, hc12]
              refine W_cond_t rfl ?_
              first | rw [if_pos (rfl : true = true)] at h | rw [if_neg Bool.false_ne_true] at h | skip
              simp (config := { maxSteps := 4000000 }) only [go_sem, Nat.reduceLT, Nat.reduceEqDiff, Nat.reduceAdd, Nat.reduceBEq, Nat.reduceMul, Nat.reduceSub, reduceIte, Nat.reduceLeDiff, reduceCtorEq, Int.reduceNeg, Int.reduceToNat, Int.reduceEq, Int.reduceNe, Int.reduceLT, Int.reduceLE, hr1, hc2, hc3d, hc4d, hr5, hr6, hr7, hr8, hc9d, hc10d, hr11, hc12, FinW_ret]
              obtain rfl := Option.some.inj h
              exact ⟨_, rfl, (by exact ROk.refl _), (by repeat' (first | exact PureC.val _ | refine PureC.tup ?_ | refine PureC.agg ?_ | exact pure_nil | refine pure_cons ?_ ?_))⟩
            · first | rw [if_pos hc12] at h | simp only [hc12, Bool.not_true, Bool.not_false, Bool.false_eq_true, if_true, if_false] at h
              simp (config := { maxSteps := 4000000 }) only [go_sem, Nat.reduceLT, Nat.reduceEqDiff, Nat.reduceAdd, Nat.reduceBEq, Nat.reduceMul, Nat.reduceSub, reduceIte, Nat.reduceLeDiff, reduceCtorEq, Int.reduceNeg, Int.reduceToNat, Int.reduceEq, Int.reduceNe, Int.reduceLT, Int.reduceLE, hr1, hc2, hc3d, hc4d, hr5, hr6, hr7, hr8, hc9d, hc10d, hr11, hc12]
              refine RX_guard_ndec rfl (fun hc13 => ?_) (fun hc13 => ?_)
              · have hc13d := decide_eq_false hc13
                first | rw [if_neg hc13] at h | rw [if_neg (ne_true_of_eq_false hc13d)] at h | simp only [hc13d, Bool.not_true, Bool.not_false, Bool.false_eq_true, if_true, if_false] at h
                unfold law35_BalanceAny_J2 at h
                simp (config := { maxSteps := 4000000 }) only [go_sem, Nat.reduceLT, Nat.reduceEqDiff, Nat.reduceAdd, Nat.reduceBEq, Nat.reduceMul, Nat.reduceSub, reduceIte, Nat.reduceLeDiff, reduceCtorEq, Int.reduceNeg, Int.reduceToNat, Int.reduceEq, Int.reduceNe, Int.reduceLT, Int.reduceLE, hr1, hc2, hc3d, hc4d, hr5, hr6, hr7, hr8, hc9d, hc10d, hr11, hc12, hc13d]
                refine W_cond_t rfl ?_
                first | rw [if_pos (rfl : true = true)] at h | rw [if_neg Bool.false_ne_true] at h | skip
                simp (config := { maxSteps := 4000000 }) only [go_sem, Nat.reduceLT, Nat.reduceEqDiff, Nat.reduceAdd, Nat.reduceBEq, Nat.reduceMul, Nat.reduceSub, reduceIte, Nat.reduceLeDiff, reduceCtorEq, Int.reduceNeg, Int.reduceToNat, Int.reduceEq, Int.reduceNe, Int.reduceLT, Int.reduceLE, hr1, hc2, hc3d, hc4d, hr5, hr6, hr7, hr8, hc9d, hc10d, hr11, hc12, hc13d, FinW_ret]
                obtain rfl := Option.some.inj h
                exact ⟨_, rfl, (by exact ROk.refl _), (by repeat' (first | exact PureC.val _ | refine PureC.tup ?_ | refine PureC.agg ?_ | exact pure_nil | refine pure_cons ?_ ?_))⟩
              · have hc13d := decide_eq_true hc13
                first | rw [if_pos hc13] at h | rw [if_pos hc13d] at h | simp only [hc13d, Bool.not_true, Bool.not_false, Bool.false_eq_true, if_true, if_false] at h
                obtain ⟨r7, hr14, h⟩ := Option.bind_eq_some_iff.1 h
                unfold law35_BalanceAny_J2 at h
                simp (config := { maxSteps := 4000000 }) only [go_sem, Nat.reduceLT, Nat.reduceEqDiff, Nat.reduceAdd, Nat.reduceBEq, Nat.reduceMul, Nat.reduceSub, reduceIte, Nat.reduceLeDiff, reduceCtorEq, Int.reduceNeg, Int.reduceToNat, Int.reduceEq, Int.reduceNe, Int.reduceLT, Int.reduceLE, hr1, hc2, hc3d, hc4d, hr5, hr6, hr7, hr8, hc9d, hc10d, hr11, hc12, hc13d, hr14]
                refine W_cond_nbool rfl (fun hc15 => ?_) (fun hc15 => ?_)
                · first | rw [if_neg (ne_true_of_eq_false hc15)] at h | simp only [hc15, Bool.not_true, Bool.not_false, Bool.false_eq_true, if_true, if_false] at h
                  simp (config := { maxSteps := 4000000 }) only [go_sem, Nat.reduceLT, Nat.reduceEqDiff, Nat.reduceAdd, Nat.reduceBEq, Nat.reduceMul, Nat.reduceSub, reduceIte, Nat.reduceLeDiff, reduceCtorEq, Int.reduceNeg, Int.reduceToNat, Int.reduceEq, Int.reduceNe, Int.reduceLT, Int.reduceLE, hr1, hc2, hc3d, hc4d, hr5, hr6, hr7, hr8, hc9d, hc10d, hr11, hc12, hc13d, hr14, hc15, FinW_ret]
                  obtain rfl := Option.some.inj h
                  exact ⟨_, rfl, (by exact ROk.refl _), (by repeat' (first | exact PureC.val _ | refine PureC.tup ?_ | refine PureC.agg ?_ | exact pure_nil | refine pure_cons ?_ ?_))⟩
                · first | rw [if_pos hc15] at h | simp only [hc15, Bool.not_true, Bool.not_false, Bool.false_eq_true, if_true, if_false] at h
                  unfold law35_BalanceAny_J3 at h
                  obtain ⟨r8, hr16, h⟩ := Option.bind_eq_some_iff.1 h
                  obtain ⟨r9, hr17, h⟩ := Option.bind_eq_some_iff.1 h
                  simp (config := { maxSteps := 4000000 }) only [go_sem, Nat.reduceLT, Nat.reduceEqDiff, Nat.reduceAdd, Nat.reduceBEq, Nat.reduceMul, Nat.reduceSub, reduceIte, Nat.reduceLeDiff, reduceCtorEq, Int.reduceNeg, Int.reduceToNat, Int.reduceEq, Int.reduceNe, Int.reduceLT, Int.reduceLE, hr1, hc2, hc3d, hc4d, hr5, hr6, hr7, hr8, hc9d, hc10d, hr11, hc12, hc13d, hr14, hc15, hr16, hr17]
                  refine RX_guard_dec rfl (fun hc18 => ?_) (fun hc18 => ?_)
                  · have hc18d := decide_eq_true hc18
                    first | rw [if_pos hc18] at h | rw [if_pos hc18d] at h | simp only [hc18d, Bool.not_true, Bool.not_false, Bool.false_eq_true, if_true, if_false] at h
                    obtain ⟨r10, hr19, h⟩ := Option.bind_eq_some_iff.1 h
                    obtain ⟨r11, hr20, h⟩ := Option.bind_eq_some_iff.1 h
                    simp (config := { maxSteps := 4000000 }) only [go_sem, Nat.reduceLT, Nat.reduceEqDiff, Nat.reduceAdd, Nat.reduceBEq, Nat.reduceMul, Nat.reduceSub, reduceIte, Nat.reduceLeDiff, reduceCtorEq, Int.reduceNeg, Int.reduceToNat, Int.reduceEq, Int.reduceNe, Int.reduceLT, Int.reduceLE, hr1, hc2, hc3d, hc4d, hr5, hr6, hr7, hr8, hc9d, hc10d, hr11, hc12, hc13d, hr14, hc15, hr16, hr17, hc18d, hr19, hr20]
                    refine RX_guard_dec rfl (fun hc21 => ?_) (fun hc21 => ?_)
                    · have hc21d := decide_eq_true hc21
                      first | rw [if_pos hc21] at h | rw [if_pos hc21d] at h | simp only [hc21d, Bool.not_true, Bool.not_false, Bool.false_eq_true, if_true, if_false] at h
                      obtain ⟨r12, hr22, h⟩ := Option.bind_eq_some_iff.1 h
                      obtain ⟨r13, hr23, h⟩ := Option.bind_eq_some_iff.1 h
                      simp (config := { maxSteps := 4000000 }) only [go_sem, Nat.reduceLT, Nat.reduceEqDiff, Nat.reduceAdd, Nat.reduceBEq, Nat.reduceMul, Nat.reduceSub, reduceIte, Nat.reduceLeDiff, reduceCtorEq, Int.reduceNeg, Int.reduceToNat, Int.reduceEq, Int.reduceNe, Int.reduceLT, Int.reduceLE, hr1, hc2, hc3d, hc4d, hr5, hr6, hr7, hr8, hc9d, hc10d, hr11, hc12, hc13d, hr14, hc15, hr16, hr17, hc18d, hr19, hr20, hc21d, hr22, hr23]
                      refine RX_guard_dec rfl (fun hc24 => ?_) (fun hc24 => ?_)
                      · have hc24d := decide_eq_true hc24
                        first | rw [if_pos hc24] at h | rw [if_pos hc24d] at h | simp only [hc24d, Bool.not_true, Bool.not_false, Bool.false_eq_true, if_true, if_false] at h
                        obtain ⟨r14, hr25, h⟩ := Option.bind_eq_some_iff.1 h
                        obtain ⟨r15, hr26, h⟩ := Option.bind_eq_some_iff.1 h
                        simp (config := { maxSteps := 4000000 }) only [go_sem, Nat.reduceLT, Nat.reduceEqDiff, Nat.reduceAdd, Nat.reduceBEq, Nat.reduceMul, Nat.reduceSub, reduceIte, Nat.reduceLeDiff, reduceCtorEq, Int.reduceNeg, Int.reduceToNat, Int.reduceEq, Int.reduceNe, Int.reduceLT, Int.reduceLE, hr1, hc2, hc3d, hc4d, hr5, hr6, hr7, hr8, hc9d, hc10d, hr11, hc12, hc13d, hr14, hc15, hr16, hr17, hc18d, hr19, hr20, hc21d, hr22, hr23, hc24d, hr25, hr26]
                        refine RX_guard_dec rfl (fun hc27 => ?_) (fun hc27 => ?_)
                        · have hc27d := decide_eq_true hc27
                          first | rw [if_pos hc27] at h | rw [if_pos hc27d] at h | simp only [hc27d, Bool.not_true, Bool.not_false, Bool.false_eq_true, if_true, if_false] at h
                          obtain ⟨r16, hr28, h⟩ := Option.bind_eq_some_iff.1 h
                          obtain ⟨r17, hr29, h⟩ := Option.bind_eq_some_iff.1 h
                          simp (config := { maxSteps := 4000000 }) only [go_sem, Nat.reduceLT, Nat.reduceEqDiff, Nat.reduceAdd, Nat.reduceBEq, Nat.reduceMul, Nat.reduceSub, reduceIte, Nat.reduceLeDiff, reduceCtorEq, Int.reduceNeg, Int.reduceToNat, Int.reduceEq, Int.reduceNe, Int.reduceLT, Int.reduceLE, hr1, hc2, hc3d, hc4d, hr5, hr6, hr7, hr8, hc9d, hc10d, hr11, hc12, hc13d, hr14, hc15, hr16, hr17, hc18d, hr19, hr20, hc21d, hr22, hr23, hc24d, hr25, hr26, hc27d, hr28, hr29]
                          refine RX_guard_dec rfl (fun hc30 => ?_) (fun hc30 => ?_)
                          · have hc30d := decide_eq_true hc30
                            first | rw [if_pos hc30] at h | rw [if_pos hc30d] at h | simp only [hc30d, Bool.not_true, Bool.not_false, Bool.false_eq_true, if_true, if_false] at h
                            obtain ⟨r18, hr31, h⟩ := Option.bind_eq_some_iff.1 h
                            obtain ⟨r19, hr32, h⟩ := Option.bind_eq_some_iff.1 h
                            simp (config := { maxSteps := 4000000 }) only [go_sem, Nat.reduceLT, Nat.reduceEqDiff, Nat.reduceAdd, Nat.reduceBEq, Nat.reduceMul, Nat.reduceSub, reduceIte, Nat.reduceLeDiff, reduceCtorEq, Int.reduceNeg, Int.reduceToNat, Int.reduceEq, Int.reduceNe, Int.reduceLT, Int.reduceLE, hr1, hc2, hc3d, hc4d, hr5, hr6, hr7, hr8, hc9d, hc10d, hr11, hc12, hc13d, hr14, hc15, hr16, hr17, hc18d, hr19, hr20, hc21d, hr22, hr23, hc24d, hr25, hr26, hc27d, hr28, hr29, hc30d, hr31, hr32]
                            refine RX_guard_dec rfl (fun hc33 => ?_) (fun hc33 => ?_)
                            · have hc33d := decide_eq_true hc33
                              first | rw [if_pos hc33] at h | rw [if_pos hc33d] at h | simp only [hc33d, Bool.not_true, Bool.not_false, Bool.false_eq_true, if_true, if_false] at h
                              obtain ⟨r20, hr34, h⟩ := Option.bind_eq_some_iff.1 h
                              obtain ⟨r21, hr35, h⟩ := Option.bind_eq_some_iff.1 h
                              obtain ⟨r22, hr36, h⟩ := Option.bind_eq_some_iff.1 h
                              simp (config := { maxSteps := 4000000 }) only [go_sem, Nat.reduceLT, Nat.reduceEqDiff, Nat.reduceAdd, Nat.reduceBEq, Nat.reduceMul, Nat.reduceSub, reduceIte, Nat.reduceLeDiff, reduceCtorEq, Int.reduceNeg, Int.reduceToNat, Int.reduceEq, Int.reduceNe, Int.reduceLT, Int.reduceLE, hr1, hc2, hc3d, hc4d, hr5, hr6, hr7, hr8, hc9d, hc10d, hr11, hc12, hc13d, hr14, hc15, hr16, hr17, hc18d, hr19, hr20, hc21d, hr22, hr23, hc24d, hr25, hr26, hc27d, hr28, hr29, hc30d, hr31, hr32, hc33d, hr34, hr35, hr36, FinW_ret]
                              obtain rfl := Option.some.inj h
                              exact ⟨_, rfl, (by exact ROk.refl _), (by repeat' (first | exact PureC.val _ | refine PureC.tup ?_ | refine PureC.agg ?_ | exact pure_nil | refine pure_cons ?_ ?_))⟩
                            · have hc33d := decide_eq_false hc33
                              first | rw [if_neg hc33] at h | rw [if_neg (ne_true_of_eq_false hc33d)] at h | simp only [hc33d, Bool.not_true, Bool.not_false, Bool.false_eq_true, if_true, if_false] at h
                              simp (config := { maxSteps := 4000000 }) only [go_sem, Nat.reduceLT, Nat.reduceEqDiff, Nat.reduceAdd, Nat.reduceBEq, Nat.reduceMul, Nat.reduceSub, reduceIte, Nat.reduceLeDiff, reduceCtorEq, Int.reduceNeg, Int.reduceToNat, Int.reduceEq, Int.reduceNe, Int.reduceLT, Int.reduceLE, hr1, hc2, hc3d, hc4d, hr5, hr6, hr7, hr8, hc9d, hc10d, hr11, hc12, hc13d, hr14, hc15, hr16, hr17, hc18d, hr19, hr20, hc21d, hr22, hr23, hc24d, hr25, hr26, hc27d, hr28, hr29, hc30d, hr31, hr32, hc33d, FinW_ret]
                              obtain rfl := Option.some.inj h
                              exact ⟨_, rfl, (by exact ROk.refl _), (by repeat' (first | exact PureC.val _ | refine PureC.tup ?_ | refine PureC.agg ?_ | exact pure_nil | refine pure_cons ?_ ?_))⟩
                          · have hc30d := decide_eq_false hc30
                            first | rw [if_neg hc30] at h | rw [if_neg (ne_true_of_eq_false hc30d)] at h | simp only [hc30d, Bool.not_true, Bool.not_false, Bool.false_eq_true, if_true, if_false] at h
                            simp (config := { maxSteps := 4000000 }) only [go_sem, Nat.reduceLT, Nat.reduceEqDiff, Nat.reduceAdd, Nat.reduceBEq, Nat.reduceMul, Nat.reduceSub, reduceIte, Nat.reduceLeDiff, reduceCtorEq, Int.reduceNeg, Int.reduceToNat, Int.reduceEq, Int.reduceNe, Int.reduceLT, Int.reduceLE, hr1, hc2, hc3d, hc4d, hr5, hr6, hr7, hr8, hc9d, hc10d, hr11, hc12, hc13d, hr14, hc15, hr16, hr17, hc18d, hr19, hr20, hc21d, hr22, hr23, hc24d, hr25, hr26, hc27d, hr28, hr29, hc30d, FinW_ret]
                            obtain rfl := Option.some.inj h
                            exact ⟨_, rfl, (by exact ROk.refl _), (by repeat' (first | exact PureC.val _ | refine PureC.tup ?_ | refine PureC.agg ?_ | exact pure_nil | refine pure_cons ?_ ?_))⟩
                        · have hc27d := decide_eq_false hc27
                          first | rw [if_neg hc27] at h | rw [if_neg (ne_true_of_eq_false hc27d)] at h | simp only [hc27d, Bool.not_true, Bool.not_false, Bool.false_eq_true, if_true, if_false] at h
                          simp (config := { maxSteps := 4000000 }) only [go_sem, Nat.reduceLT, Nat.reduceEqDiff, Nat.reduceAdd, Nat.reduceBEq, Nat.reduceMul, Nat.reduceSub, reduceIte, Nat.reduceLeDiff, reduceCtorEq, Int.reduceNeg, Int.reduceToNat, Int.reduceEq, Int.reduceNe, Int.reduceLT, Int.reduceLE, hr1, hc2, hc3d, hc4d, hr5, hr6, hr7, hr8, hc9d, hc10d, hr11, hc12, hc13d, hr14, hc15, hr16, hr17, hc18d, hr19, hr20, hc21d, hr22, hr23, hc24d, hr25, hr26, hc27d, FinW_ret]
                          obtain rfl := Option.some.inj h
                          exact ⟨_, rfl, (by exact ROk.refl _), (by repeat' (first | exact PureC.val _ | refine PureC.tup ?_ | refine PureC.agg ?_ | exact pure_nil | refine pure_cons ?_ ?_))⟩
                      · have hc24d := decide_eq_false hc24
                        first | rw [if_neg hc24] at h | rw [if_neg (ne_true_of_eq_false hc24d)] at h | simp only [hc24d, Bool.not_true, Bool.not_false, Bool.false_eq_true, if_true, if_false] at h
                        simp (config := { maxSteps := 4000000 }) only [go_sem, Nat.reduceLT, Nat.reduceEqDiff, Nat.reduceAdd, Nat.reduceBEq, Nat.reduceMul, Nat.reduceSub, reduceIte, Nat.reduceLeDiff, reduceCtorEq, Int.reduceNeg, Int.reduceToNat, Int.reduceEq, Int.reduceNe, Int.reduceLT, Int.reduceLE, hr1, hc2, hc3d, hc4d, hr5, hr6, hr7, hr8, hc9d, hc10d, hr11, hc12, hc13d, hr14, hc15, hr16, hr17, hc18d, hr19, hr20, hc21d, hr22, hr23, hc24d, FinW_ret]
                        obtain rfl := Option.some.inj h
                        exact ⟨_, rfl, (by exact ROk.refl _), (by repeat' (first | exact PureC.val _ | refine PureC.tup ?_ | refine PureC.agg ?_ | exact pure_nil | refine pure_cons ?_ ?_))⟩
                    · have hc21d := decide_eq_false hc21
                      first | rw [if_neg hc21] at h | rw [if_neg (ne_true_of_eq_false hc21d)] at h | simp only [hc21d, Bool.not_true, Bool.not_false, Bool.false_eq_true, if_true, if_false] at h
                      simp (config := { maxSteps := 4000000 }) only [go_sem, Nat.reduceLT, Nat.reduceEqDiff, Nat.reduceAdd, Nat.reduceBEq, Nat.reduceMul, Nat.reduceSub, reduceIte, Nat.reduceLeDiff, reduceCtorEq, Int.reduceNeg, Int.reduceToNat, Int.reduceEq, Int.reduceNe, Int.reduceLT, Int.reduceLE, hr1, hc2, hc3d, hc4d, hr5, hr6, hr7, hr8, hc9d, hc10d, hr11, hc12, hc13d, hr14, hc15, hr16, hr17, hc18d, hr19, hr20, hc21d, FinW_ret]
                      obtain rfl := Option.some.inj h
                      exact ⟨_, rfl, (by exact ROk.refl _), (by repeat' (first | exact PureC.val _ | refine PureC.tup ?_ | refine PureC.agg ?_ | exact pure_nil | refine pure_cons ?_ ?_))⟩
                  · have hc18d := decide_eq_false hc18
                    first | rw [if_neg hc18] at h | rw [if_neg (ne_true_of_eq_false hc18d)] at h | simp only [hc18d, Bool.not_true, Bool.not_false, Bool.false_eq_true, if_true, if_false] at h
                    simp (config := { maxSteps := 4000000 }) only [go_sem, Nat.reduceLT, Nat.reduceEqDiff, Nat.reduceAdd, Nat.reduceBEq, Nat.reduceMul, Nat.reduceSub, reduceIte, Nat.reduceLeDiff, reduceCtorEq, Int.reduceNeg, Int.reduceToNat, Int.reduceEq, Int.reduceNe, Int.reduceLT, Int.reduceLE, hr1, hc2, hc3d, hc4d, hr5, hr6, hr7, hr8, hc9d, hc10d, hr11, hc12, hc13d, hr14, hc15, hr16, hr17, hc18d, FinW_ret]
                    obtain rfl := Option.some.inj h
                    exact ⟨_, rfl, (by exact ROk.refl _), (by repeat' (first | exact PureC.val _ | refine PureC.tup ?_ | refine PureC.agg ?_ | exact pure_nil | refine pure_cons ?_ ?_))⟩
def fs_law35_BalanceAny (N : Nat) : FnS := { own := [], pure := true, fn := fun cs => match cs with
  | [c0, c1] => ((decL 2 Load.dec) c0).bind fun qc0 => ((decL 2 LoadMove.dec) c1).bind fun qc1 => (law35_BalanceAny N qc0 qc1).map fun r => .val (.bool r)
  | _ => none }
theorem fs_law35_BalanceAny_own (N : Nat) : (fs_law35_BalanceAny N).own = [] := rfl
theorem fs_law35_BalanceAny_pure (N : Nat) : (fs_law35_BalanceAny N).pure = true := rfl
attribute [go_sem] fs_law35_BalanceAny fs_law35_BalanceAny_own fs_law35_BalanceAny_pure
theorem fs_law35_BalanceAny_ok (N : Nat) : FSOk Try.prog 3 (fs_law35_BalanceAny N) := by
  refine ⟨fun cs r h => ?_, fun h => by cases h⟩
  simp only [fs_law35_BalanceAny] at h
  split at h
  · simp only [Option.bind_eq_some_iff, Option.map_eq_some_iff] at h
    obtain ⟨q0, h0, q1, h1, r', hr, rfl⟩ := h
    exact ((w_law35_BalanceAny N q0 q1 r' hr).args (LeL.cons (decL_le Load.dec_le h0) (LeL.cons (decL_le LoadMove.dec_le h1) (LeL.nil))))
  · cases h

end Go.Proofs.Ytpbloecedgddlaa
end
