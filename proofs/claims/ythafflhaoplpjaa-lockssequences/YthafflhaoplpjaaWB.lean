/- Walks: each function computes its model. No condition. -/
import Derived.Test.YthafflhaoplpjaaB
import Derived.Test.YthafflhaoplpjaaWA
/- Each Go function computes its model: proofs laid by a program of ours. -/
set_option maxHeartbeats 40000000
set_option synthInstance.maxHeartbeats 2000000
set_option synthInstance.maxSize 4000
set_option linter.unusedSimpArgs false
set_option linter.unusedVariables false
set_option maxRecDepth 100000
namespace Go.Proofs.Ythafflhaoplpjaa
open Go Go.Proofs Go.Abs
noncomputable def G_ref29_pass (N d f : Nat) : Option FnS := glist [(9, 34, fso_ref29_CopyLocks N)] d f
attribute [go_sem] G_ref29_pass
theorem w_ref29_pass (N : Nat) (a0 : (List Lock)) (a1 : Int) (r : (List Lock) × Int) (h : ref29_pass N a0 a1 = some r) : Con Try.prog 38 [] false [.sl false none 4 none (a0.map Lock.row), .val (.int .i64 a1)] (.tup [.sl false none 4 none (r.1.map Lock.row), .val (.int .i64 r.2)]) := by
  refine fun_ok4 (G := (G_ref29_pass N)) Try.func38 rfl (by decide) (by kernel_rfl) (gc 9 (fso_ref29_CopyLocks_ok N) gn) [(26, false)] mix (Nat.le_of_ble_eq_true rfl) ?_
  simp only [Try.f38]
  unfold ref29_pass at h
  refine Wk_seq (Wk_regionZ fun Z hZ => ?_)
  simp (config := { maxSteps := 4000000 }) only [go_sem, seval]
  refine hZ _ (pp (Wk_seq ?_))
  obtain ⟨r1, hr1, h⟩ := Option.bind_eq_some_iff.1 h
  refine Wk_regionZ fun Z hZ => ?_
  simp (config := { maxSteps := 4000000 }) only [go_sem, seval, hr1]
  refine hZ _ (pp (Wk_seq ?_))
  obtain ⟨x2, hb2, hx3, h⟩ := gx_some h
  refine Wk_regionZ fun Z hZ => ?_
  simp (config := { maxSteps := 4000000 }) only [go_sem, seval, hb2, hx3]
  refine hZ _ (pp (Wk_seq (Wk_seq (Wk_regionZ fun Z hZ => ?_))))
  simp (config := { maxSteps := 4000000 }) only [go_sem, seval]
  refine hZ _ (pp (Wk_cond_dec rfl (fun hc4 => ?_) (fun hc4 => ?_)))
  · have hc4d := decide_eq_true hc4
    first | rw [if_pos hc4] at h | rw [if_pos hc4d] at h | simp only [hc4d, Bool.not_true, Bool.not_false, Bool.false_eq_true, if_true, if_false] at h
    refine Wk_seq (Wk_weak (weak_letL (n := 9) (by simp only [go_sem, seval]; rfl) (by simp only [letG_updT, letG_deadT, go_sem, seval]; rfl)) ?_)
    obtain ⟨hs5, ht6, h⟩ := slt_some h
    try simp only [Int.toNat_natCast] at hs5 ht6 h
    obtain ⟨hs7, h⟩ := slx_some h
    try simp only [Int.toNat_natCast] at hs7 h
    obtain ⟨ha8, h⟩ := apx_some h
    simp only [Nat.reduceAdd] at ha8
    refine Wk_regionD fun Z hZ => ?_
    simp (config := { maxSteps := 4000000 }) only [go_sem, seval, hb2, hc4d, hs5, ht6, Nat.sub_zero, Nat.zero_le, Nat.le_refl, hs7, ha8]
    repeat with_reducible refine and_bar (by kernel_rfl) ?_
    refine hZ _ (by kernel_rfl) (pp (Wk_ret (pp ?_)))
    cases h
    simp (config := { maxSteps := 4000000 }) only [go_sem, seval]
    exact ⟨_, rfl, (by repeat' (first | exact ROk.refl _ | exact ROk.nil _ | ((refine ROk.of _ ?_ ?_); (focus ((repeat' (first | exact Le.refl _ | exact LeL.nil | exact Le.nils | exact LeLL.refl _ | refine LeLL.mapAppend ?_ ?_ | refine LeLL.cons ?_ ?_ | refine Le.sl ?_ | refine Le.tup ?_ | refine Le.agg ?_ | refine LeL.cons ?_ ?_)); done)); (focus ((repeat' (first | exact NoOwn.val _ | exact NoOwn.sl _ _ _ _ | refine NoOwn.tup ?_ | refine NoOwn.agg ?_ | exact noOwn_nil | refine noOwn_cons ?_ ?_)); done))) | ((refine ROk.own ?_ ?_); (focus ((repeat' (first | exact Le.refl _ | exact LeL.nil | exact Le.nils | exact LeLL.refl _ | refine LeLL.mapAppend ?_ ?_ | refine LeLL.cons ?_ ?_ | refine Le.sl ?_ | refine Le.tup ?_ | refine Le.agg ?_ | refine LeL.cons ?_ ?_)); done)); (focus ((first | exact RowOk.noOwn (rowI_ok .i64) _ | exact RowOk.noOwn Lock.row_ok _); done))) | refine ROk.agg rfl ?_ | refine ROk.tup rfl ?_ | exact rok_nil | refine rok_cons ?_ ?_))⟩
  have hc4d := decide_eq_false hc4
  first | rw [if_neg hc4] at h | rw [if_neg (ne_true_of_eq_false hc4d)] at h | simp only [hc4d, Bool.not_true, Bool.not_false, Bool.false_eq_true, if_true, if_false] at h
  refine Wk_skip (pp (Wk_seq ?_))
  obtain ⟨x3, hb9, hx10, h⟩ := gx_some h
  have hx12 := set_get (y := (Lock.mk x2.Actor x3 x2.Waiters)) hx3
  refine Wk_regionZ fun Z hZ => ?_
  simp (config := { maxSteps := 4000000 }) only [go_sem, seval, hb2, hx3, hc4d, hb9, hx10, map_modify2 (row := Lock.row) (y := (Lock.mk x2.Actor x3 x2.Waiters)) (rx := [.val (.string x2.Actor.Type_), .val (.string x2.Actor.Key), .val (.int .i64 x2.Owner), .sl false none 1 none (x2.Waiters.map (rowI .i64))]) (ry := [.val (.string x2.Actor.Type_), .val (.string x2.Actor.Key), .val (.int .i64 x3), .sl false none 1 none (x2.Waiters.map (rowI .i64))]) hx3 rfl rfl]
  refine hZ _ (pp (Wk_seq ?_))
  obtain ⟨hs13, h⟩ := slx_some h
  try simp only [Int.toNat_zero, Nat.sub_zero, List.drop_zero] at hs13 h
  have hx15 := set_get (y := (Lock.mk x2.Actor x3 (x2.Waiters.take ((IntKind.i64.wrap (((x2.Waiters.length : Nat) : Int) - 1)).toNat)))) hx3
  refine Wk_regionZ fun Z hZ => ?_
  simp (config := { maxSteps := 4000000 }) only [go_sem, seval, hb2, hb9, hx12, hs13, Nat.sub_zero, map_modify3 (row := Lock.row) (y0 := (Lock.mk x2.Actor x3 x2.Waiters)) (y := (Lock.mk x2.Actor x3 (x2.Waiters.take ((IntKind.i64.wrap (((x2.Waiters.length : Nat) : Int) - 1)).toNat)))) (rx := [.val (.string x2.Actor.Type_), .val (.string x2.Actor.Key), .val (.int .i64 x3), .sl false none 1 none (x2.Waiters.map (rowI .i64))]) (ry := [.val (.string x2.Actor.Type_), .val (.string x2.Actor.Key), .val (.int .i64 x3), .sl false none 1 none ((x2.Waiters.take ((IntKind.i64.wrap (((x2.Waiters.length : Nat) : Int) - 1)).toNat)).map (rowI .i64))]) hx3 rfl rfl]
  refine hZ _ (pp (Wk_seq (Wk_regionD fun Z hZ => ?_)))
  simp (config := { maxSteps := 4000000 }) only [go_sem, seval, hb2, hx15]
  repeat with_reducible refine and_bar (by kernel_rfl) ?_
  refine hZ _ (by kernel_rfl) (pp (Wk_ret (pp ?_)))
  cases h
  simp (config := { maxSteps := 4000000 }) only [go_sem, seval]
  exact ⟨_, rfl, (by repeat' (first | exact ROk.refl _ | exact ROk.nil _ | ((refine ROk.of _ ?_ ?_); (focus ((repeat' (first | exact Le.refl _ | exact LeL.nil | exact Le.nils | exact LeLL.refl _ | refine LeLL.mapAppend ?_ ?_ | refine LeLL.cons ?_ ?_ | refine Le.sl ?_ | refine Le.tup ?_ | refine Le.agg ?_ | refine LeL.cons ?_ ?_)); done)); (focus ((repeat' (first | exact NoOwn.val _ | exact NoOwn.sl _ _ _ _ | refine NoOwn.tup ?_ | refine NoOwn.agg ?_ | exact noOwn_nil | refine noOwn_cons ?_ ?_)); done))) | ((refine ROk.own ?_ ?_); (focus ((repeat' (first | exact Le.refl _ | exact LeL.nil | exact Le.nils | exact LeLL.refl _ | refine LeLL.mapAppend ?_ ?_ | refine LeLL.cons ?_ ?_ | refine Le.sl ?_ | refine Le.tup ?_ | refine Le.agg ?_ | refine LeL.cons ?_ ?_)); done)); (focus ((first | exact RowOk.noOwn (rowI_ok .i64) _ | exact RowOk.noOwn Lock.row_ok _); done))) | refine ROk.agg rfl ?_ | refine ROk.tup rfl ?_ | exact rok_nil | refine rok_cons ?_ ?_))⟩
def fs_ref29_pass (N : Nat) : FnS := ⟨[], false, fn2 (decL 4 Lock.dec) (decI .i64) fun q0 q1 => (ref29_pass N q0 q1).map fun r => .tup [.sl false none 4 none (r.1.map Lock.row), .val (.int .i64 r.2)], false⟩
attribute [go_sem] fs_ref29_pass
theorem fs_ref29_pass_ok (N : Nat) : FSOk Try.prog 38 (fs_ref29_pass N) := ok2 (fun q0 q1 r h => by
  obtain ⟨r', hr, rfl⟩ := Option.map_eq_some_iff.1 h
  exact w_ref29_pass N q0 q1 r' hr) (fun h => decL_le Lock.dec_le h) (decI_le)


noncomputable def G_ref29_Release (N d f : Nat) : Option FnS := glist [(14, 30, fs_ref29_ValidLocks N), (18, 31, fs_ref14_ValidRef N), (23, 32, fs_ref29_isTxn N), (29, 33, fs_ref29_lockOf N), (46, 38, fs_ref29_pass N)] d f
attribute [go_sem] G_ref29_Release
theorem w_ref29_Release (N : Nat) (a0 : (List Lock)) (a1 : Ref) (a2 : Int) (r : (List Lock) × Int × Int) (h : ref29_Release N a0 a1 a2 = some r) : Con Try.prog 13 [] false [.sl false none 4 none (a0.map Lock.row), .agg [.val (.string a1.Type_), .val (.string a1.Key)], .val (.int .i64 a2)] (.tup [.sl false none 4 none (r.1.map Lock.row), .val (.int .i64 r.2.1), .val (.int .i64 r.2.2)]) := by
  refine fun_ok4 (G := (G_ref29_Release N)) Try.func13 rfl (by decide) (by kernel_rfl) (gc 14 (fs_ref29_ValidLocks_ok N) (gc 18 (fs_ref14_ValidRef_ok N) (gc 23 (fs_ref29_isTxn_ok N) (gc 29 (fs_ref29_lockOf_ok N) (gc 46 (fs_ref29_pass_ok N) gn))))) [] mix (Nat.le_of_ble_eq_true rfl) ?_
  simp only [Try.f13]
  unfold ref29_Release at h
  refine Wk_seq (Wk_regionZ fun Z hZ => ?_)
  simp only [go_sem, seval]
  refine hZ _ (pp (Wk_seq ?_))
  apply Wk_join1 (fun (c9 : Bool) => ⟨tab 51 (updT (updT (updT (updT deadT 0 (.sl false none 4 none (a0.map Lock.row))) 2 (.val (.int .i64 a2))) 4 (.pref 4 [] 0 0)) 25 (.val (.bool c9))), (upd RZ 4 (.sl true none 2 (some 1) [[.val (.string a1.Type_), .val (.string a1.Key)]]))⟩)
  · intro hJ1
    obtain ⟨r10, hr2, h⟩ := Option.bind_eq_some_iff.1 h
    refine Wk_regionZ fun Z hZ => ?_
    simp only [go_sem, seval, hr2]
    refine RX_guard_nbool rfl (fun hc3 => ?_) (fun hc3 => ?_)
    · rw [if_neg (ne_true_of_eq_false hc3)] at h
      simp only [go_sem, seval, hc3]
      refine hZ _ (pp (hJ1 _ true ?_ h))
      refine weak_roots ?_ ?_ <;> repeat' first | exact xn | exact rn | refine xc ?_ ?_ | refine rc ?_ ?_ ?_ | rfl
    rw [if_pos hc3] at h
    obtain ⟨r11, hr4, h⟩ := Option.bind_eq_some_iff.1 h
    simp only [go_sem, seval, hc3, hr4]
    refine RX_guard_nbool rfl (fun hc5 => ?_) (fun hc5 => ?_)
    · rw [if_neg (ne_true_of_eq_false hc5)] at h
      simp only [go_sem, seval, hc5]
      refine hZ _ (pp (hJ1 _ true ?_ h))
      refine weak_roots ?_ ?_ <;> repeat' first | exact xn | exact rn | refine xc ?_ ?_ | refine rc ?_ ?_ ?_ | rfl
    rw [if_pos hc5] at h
    obtain ⟨r12, hr6, h⟩ := Option.bind_eq_some_iff.1 h
    simp only [go_sem, seval, hc5, hr6]
    refine hZ _ (pp (hJ1 _ (!r12) ?_ h))
    refine weak_roots ?_ ?_ <;> repeat' first | exact xn | exact rn | refine xc ?_ ?_ | refine rc ?_ ?_ ?_ | rfl
  intro c9 h
  unfold ref29_Release_J1 at h
  refine Wk_cond_bool rfl (fun hc7 => ?_) (fun hc7 => ?_)
  · rw [if_pos hc7] at h
    refine Wk_seq (Wk_regionZ fun Z hZ => ?_)
    simp only [go_sem, seval, hc7]
    refine hZ _ (pp (Wk_ret (pp ?_)))
    cases h
    simp only [go_sem, seval]
    exact ⟨_, rfl, RokI.h⟩
  rw [if_neg (ne_true_of_eq_false hc7)] at h
  refine Wk_skip (pp ?_)
  unfold ref29_Release_J4 at h
  refine Wk_seq ?_
  obtain ⟨r13, hr8, h⟩ := Option.bind_eq_some_iff.1 h
  refine Wk_regionZ fun Z hZ => ?_
  simp only [go_sem, seval, hc7, hr8]
  refine hZ _ (pp (Wk_seq ?_))
  apply Wk_join1 (fun (c18 : Bool) => ⟨tab 51 (updT (updT (updT deadT 0 (.sl false none 4 none (a0.map Lock.row))) 9 (.val (.int .i64 r13.1))) 42 (.val (.bool c18))), RZ⟩)
  · intro hJ9
    refine Wk_regionZ fun Z hZ => ?_
    simp only [go_sem, seval]
    refine RX_guard_nbool rfl (fun hc10 => ?_) (fun hc10 => ?_)
    · rw [if_neg (ne_true_of_eq_false hc10)] at h
      simp only [go_sem, seval, hc10]
      refine hZ _ (pp (hJ9 _ true ?_ h))
      refine weak_roots ?_ ?_ <;> repeat' first | exact xn | exact rn | refine xc ?_ ?_ | refine rc ?_ ?_ ?_ | rfl
    rw [if_pos hc10] at h
    obtain ⟨x19, hb11, hx12, h⟩ := gx_some h
    simp only [go_sem, seval, hc10, hb11, hx12]
    refine hZ _ (pp (hJ9 _ (!decide (x19.Owner = a2)) ?_ h))
    refine weak_roots ?_ ?_ <;> repeat' first | exact xn | exact rn | refine xc ?_ ?_ | refine rc ?_ ?_ ?_ | rfl
  intro c18 h
  unfold ref29_Release_J2 at h
  refine Wk_cond_bool rfl (fun hc13 => ?_) (fun hc13 => ?_)
  · rw [if_pos hc13] at h
    refine Wk_seq (Wk_regionZ fun Z hZ => ?_)
    simp only [go_sem, seval, hc13]
    refine hZ _ (pp (Wk_ret (pp ?_)))
    cases h
    simp only [go_sem, seval]
    exact ⟨_, rfl, RokI.h⟩
  rw [if_neg (ne_true_of_eq_false hc13)] at h
  refine Wk_skip (pp ?_)
  unfold ref29_Release_J3 at h
  refine Wk_seq ?_
  obtain ⟨r20, hr14, h⟩ := Option.bind_eq_some_iff.1 h
  refine Wk_regionZ fun Z hZ => ?_
  simp only [go_sem, seval, hc13, hr14]
  refine hZ _ (pp (Wk_seq (Wk_regionZ fun Z hZ => ?_)))
  simp only [go_sem, seval]
  refine hZ _ (pp (Wk_ret (pp ?_)))
  cases h
  simp only [go_sem, seval]
  exact ⟨_, rfl, RokI.h⟩
def fs_ref29_Release (N : Nat) : FnS := ⟨[], false, fn3 (decL 4 Lock.dec) Ref.decA (decI .i64) fun q0 q1 q2 => (ref29_Release N q0 q1 q2).map fun r => .tup [.sl false none 4 none (r.1.map Lock.row), .val (.int .i64 r.2.1), .val (.int .i64 r.2.2)], false⟩
attribute [go_sem] fs_ref29_Release
theorem fs_ref29_Release_ok (N : Nat) : FSOk Try.prog 13 (fs_ref29_Release N) := ok3 (fun q0 q1 q2 r h => by
  obtain ⟨r', hr, rfl⟩ := Option.map_eq_some_iff.1 h
  exact w_ref29_Release N q0 q1 q2 r' hr) (fun h => decL_le Lock.dec_le h) (Ref.decA_le) (decI_le)


noncomputable def G_locks_ReleaseAll (N d f : Nat) : Option FnS := glist [(12, 21, fs_locks_Valid N), (15, 27, fso_locks_clone N), (37, 37, fso_locks_pass N)] d f
attribute [go_sem] G_locks_ReleaseAll
theorem w_locks_ReleaseAll (N : Nat) (a0 : (List Lock)) (a1 : Int) (r : (List Lock) × (List LockGrant)) (h : locks_ReleaseAll N a0 a1 = some r) : Con Try.prog 14 [] false [.sl false none 4 none (a0.map Lock.row), .val (.int .i64 a1)] (.tup [.sl true none 4 none (r.1.map Lock.row), .sl true none 3 none (r.2.map LockGrant.row)]) := by
  refine fun_ok4 (G := (G_locks_ReleaseAll N)) Try.func14 rfl (by decide) (by kernel_rfl) (gc 12 (fs_locks_Valid_ok N) (gc 15 (fso_locks_clone_ok N) (gc 37 (fso_locks_pass_ok N) gn))) [] mix (Nat.le_of_ble_eq_true rfl) ?_
  simp only [Try.f14]
  unfold locks_ReleaseAll at h
  refine Wk_seq (Wk_regionZ fun Z hZ => ?_)
  simp only [go_sem, seval]
  refine hZ _ (pp (Wk_seq (Wk_seq ?_)))
  obtain ⟨r1, hr1, h⟩ := Option.bind_eq_some_iff.1 h
  refine Wk_regionZ fun Z hZ => ?_
  simp only [go_sem, seval, hr1]
  refine hZ _ (pp (Wk_cond_nbool rfl (fun hc2 => ?_) (fun hc2 => ?_)))
  · rw [if_neg (ne_true_of_eq_false hc2)] at h
    refine Wk_seq (Wk_regionZ fun Z hZ => ?_)
    simp only [go_sem, seval, hc2]
    refine hZ _ (pp (Wk_ret (pp ?_)))
    cases h
    simp only [go_sem, seval]
    exact ⟨_, rfl, RokI.h⟩
  rw [if_pos hc2] at h
  refine Wk_skip (pp (Wk_seq ?_))
  obtain ⟨r2, hr3, h⟩ := Option.bind_eq_some_iff.1 h
  refine Wk_regionZ fun Z hZ => ?_
  simp only [go_sem, seval, hc2, hr3]
  refine hZ _ (pp (Wk_seq (Wk_regionZ fun Z hZ => ?_)))
  simp only [go_sem, seval]
  refine hZ _ (pp (Wk_seq (Wk_seq (Wk_regionZ fun Z hZ => ?_))))
  simp only [go_sem, seval]
  refine hZ _ (pp (Wk_block (Wk_fuel (fun (b : List Lock × List LockGrant × Int) => ⟨tab 52 (updT (updT (updT (updT deadT 1 (.val (.int .i64 a1))) 6 (.pal 15 [] 0 b.1.length none)) 7 (.pal 47 [] 0 b.2.1.length none)) 8 (.val (.int .i64 b.2.2))), (upd (upd RZ 15 (.sl true none 4 none (b.1.map Lock.row))) 47 (.sl true none 3 none (b.2.1.map LockGrant.row)))⟩) (r2, [], 0) h ?_ ?_)))
  · refine Weak.trans (weak_adopt 7 47 3 (by simp only [go_sem, seval]) (by simp only [go_sem, seval])) ?_
    refine weak_roots ?_ ?_ <;> repeat' first | exact xn | exact rn | refine xc ?_ ?_ | refine rc ?_ ?_ ?_ | rfl | simp only [go_sem, seval, Bool.or_self, List.length_set, Int.natCast_zero, Int.cast_ofNat_Int, hr1, hc2, hr3]
  rintro n ⟨l5, l6, v7⟩ h -
  cases n with
  | zero => simp [locks_ReleaseAll_L1] at h
  | succ n =>
  simp only [locks_ReleaseAll_L1] at h
  refine Wk_seq (Wk_seq (Wk_regionZ fun Z hZ => ?_))
  simp only [go_sem, seval]
  refine hZ _ (pp (sw (Wk_cond_dec rfl) (fun hc4 => ?_) (fun hc4 => ?_)))
  · have hc4d := decide_eq_false hc4
    rw [if_neg hc4] at h
    refine Wk_exit (pp (Wk_seq (Wk_regionZ fun Z hZ => ?_)))
    simp only [go_sem, seval, hc4d]
    refine hZ _ (pp (Wk_ret (pp ?_)))
    cases h
    simp only [go_sem, seval]
    exact ⟨_, rfl, RokI.h⟩
  have hc4d := decide_eq_true hc4
  rw [if_pos hc4] at h
  refine Wk_skip (pp (Wk_block (Wk_seq (Wk_seq ?_))))
  obtain ⟨x3, hb5, hx6, h⟩ := gx_some h
  refine Wk_regionZ fun Z hZ => ?_
  simp only [go_sem, seval, hb5, hx6]
  refine hZ _ (pp (Wk_cond_ndec rfl (fun hc7 => ?_) (fun hc7 => ?_)))
  · have hc7d := decide_eq_false hc7
    rw [if_neg hc7] at h
    refine Wk_seq (Wk_regionZ fun Z hZ => ?_)
    simp only [go_sem, seval, hc7d]
    refine hZ _ (pp (Wk_exit (pp (⟨_, Nat.lt_succ_self _, (l5, l6, IntKind.i64.wrap (v7 + 1)), ?_, h⟩))))
    refine weak_roots ?_ ?_ <;> repeat' first | exact xn | exact rn | refine xc ?_ ?_ | refine rc ?_ ?_ ?_ | rfl | simp only [go_sem, seval, Bool.or_self, List.length_set, Int.natCast_zero, Int.cast_ofNat_Int, hr1, hc2, hr3, hc4d, hb5, hx6, hc7d]
  have hc7d := decide_eq_true hc7
  rw [if_pos hc7] at h
  refine Wk_skip (pp (Wk_seq (Wk_regionZ fun Z hZ => ?_)))
  simp only [go_sem, seval, hb5, hx6, hc7d]
  refine hZ _ (pp (Wk_seq ?_))
  obtain ⟨r4, hr8, h⟩ := Option.bind_eq_some_iff.1 h
  refine Wk_regionZ fun Z hZ => ?_
  simp only [go_sem, seval, hr8]
  refine hZ _ (pp (Wk_seq (Wk_regionZ fun Z hZ => ?_)))
  simp only [go_sem, seval]
  refine hZ _ (pp (sw (Wk_cond_ndec rfl) (fun hc9 => ?_) (fun hc9 => ?_)))
  · have hc9d := decide_eq_true hc9
    rw [if_pos hc9] at h
    refine Wk_skip (pp (⟨_, Nat.lt_succ_self _, (r4.1, l6, v7), ?_, h⟩))
    refine Weak.trans (weak_move 6 37 [(0, 0)] 15 (by decide) (by decide) (by simp only [go_sem, seval]) (by simp only [go_sem, seval]; rfl) (by simp only [go_sem, seval, hc9d]; rfl) (by simp) (by simp only [poiT_updT, poiT_deadT, go_sem, seval]; rfl) (by simp only [go_sem, seval]; rfl)) ?_
    refine weak_roots ?_ ?_ <;> repeat' first | exact xn | exact rn | refine xc ?_ ?_ | refine rc ?_ ?_ ?_ | rfl | simp only [go_sem, seval, Bool.or_self, List.length_set, Int.natCast_zero, Int.cast_ofNat_Int, hr1, hc2, hr3, hc4d, hb5, hx6, hc7d, hr8, hc9d]
  have hc9d := decide_eq_false hc9
  rw [if_neg hc9] at h
  refine Wk_seq ?_
  obtain ⟨ha10, h⟩ := apx_some h
  simp only [List.length_cons, List.length_nil, Nat.zero_add, Nat.reduceAdd] at ha10
  refine Wk_regionZ fun Z hZ => ?_
  simp only [go_sem, seval, hc9d, ha10]
  refine hZ _ (pp (Wk_regionZ fun Z hZ => ?_))
  simp only [go_sem, seval]
  refine hZ _ (pp (⟨_, Nat.lt_succ_self _, (r4.1, (l6 ++ [(LockGrant.mk x3.Actor r4.2)]), IntKind.i64.wrap (v7 + 1)), ?_, h⟩))
  refine Weak.trans (weak_move 6 37 [(0, 0)] 15 (by decide) (by decide) (by simp only [go_sem, seval]) (by simp only [go_sem, seval]; rfl) (by simp only [go_sem, seval]; rfl) (by simp) (by simp only [poiT_updT, poiT_deadT, go_sem, seval]; rfl) (by simp only [go_sem, seval]; rfl)) ?_
  refine weak_roots ?_ ?_ <;> repeat' first | exact xn | exact rn | refine xc ?_ ?_ | refine rc ?_ ?_ ?_ | rfl | simp only [go_sem, seval]
def fs_locks_ReleaseAll (N : Nat) : FnS := ⟨[], false, fn2 (decL 4 Lock.dec) (decI .i64) fun q0 q1 => (locks_ReleaseAll N q0 q1).map fun r => .tup [.sl false none 4 none (r.1.map Lock.row), .sl false none 3 none (r.2.map LockGrant.row)], false⟩
attribute [go_sem] fs_locks_ReleaseAll
theorem fs_locks_ReleaseAll_ok (N : Nat) : FSOk Try.prog 14 (fs_locks_ReleaseAll N) := ok2 (fun q0 q1 r h => by
  obtain ⟨r', hr, rfl⟩ := Option.map_eq_some_iff.1 h
  exact (w_locks_ReleaseAll N q0 q1 r' hr).res (by (try simp only [go_sem]); exact RokI.h)) (fun h => decL_le Lock.dec_le h) (decI_le)

def fso_locks_ReleaseAll (N : Nat) : FnS := ⟨[], false, fn2 (decL 4 Lock.dec) (decI .i64) fun q0 q1 => (locks_ReleaseAll N q0 q1).map fun r => .tup [.sl true none 4 none (r.1.map Lock.row), .sl true none 3 none (r.2.map LockGrant.row)], false⟩
attribute [go_sem] fso_locks_ReleaseAll
theorem fso_locks_ReleaseAll_ok (N : Nat) : FSOk Try.prog 14 (fso_locks_ReleaseAll N) := ok2 (fun q0 q1 r h => by
  obtain ⟨r', hr, rfl⟩ := Option.map_eq_some_iff.1 h
  exact w_locks_ReleaseAll N q0 q1 r' hr) (fun h => decL_le Lock.dec_le h) (decI_le)


noncomputable def G_ref29_ReleaseAll (N d f : Nat) : Option FnS := glist [(13, 30, fs_ref29_ValidLocks N), (16, 34, fs_ref29_CopyLocks N), (37, 33, fs_ref29_lockOf N), (43, 38, fs_ref29_pass N)] d f
attribute [go_sem] G_ref29_ReleaseAll
theorem w_ref29_ReleaseAll (N : Nat) (a0 : (List Lock)) (a1 : Int) (r : (List Lock) × (List LockGrant)) (h : ref29_ReleaseAll N a0 a1 = some r) : Con Try.prog 15 [] false [.sl false none 4 none (a0.map Lock.row), .val (.int .i64 a1)] (.tup [.sl false none 4 none (r.1.map Lock.row), .sl true none 3 none (r.2.map LockGrant.row)]) := by
  refine fun_ok4 (G := (G_ref29_ReleaseAll N)) Try.func15 rfl (by decide) (by kernel_rfl) (gc 13 (fs_ref29_ValidLocks_ok N) (gc 16 (fs_ref29_CopyLocks_ok N) (gc 37 (fs_ref29_lockOf_ok N) (gc 43 (fs_ref29_pass_ok N) gn)))) [] mix (Nat.le_of_ble_eq_true rfl) ?_
  simp only [Try.f15]
  unfold ref29_ReleaseAll at h
  refine Wk_seq (Wk_regionZ fun Z hZ => ?_)
  simp only [go_sem, seval]
  refine hZ _ (pp (Wk_seq (Wk_seq ?_)))
  obtain ⟨r1, hr1, h⟩ := Option.bind_eq_some_iff.1 h
  refine Wk_regionZ fun Z hZ => ?_
  simp only [go_sem, seval, hr1]
  refine hZ _ (pp (Wk_cond_nbool rfl (fun hc2 => ?_) (fun hc2 => ?_)))
  · rw [if_neg (ne_true_of_eq_false hc2)] at h
    refine Wk_seq (Wk_regionZ fun Z hZ => ?_)
    simp only [go_sem, seval, hc2]
    refine hZ _ (pp (Wk_ret (pp ?_)))
    cases h
    simp only [go_sem, seval]
    exact ⟨_, rfl, RokI.h⟩
  rw [if_pos hc2] at h
  refine Wk_skip (pp (Wk_seq ?_))
  obtain ⟨r2, hr3, h⟩ := Option.bind_eq_some_iff.1 h
  refine Wk_regionZ fun Z hZ => ?_
  simp only [go_sem, seval, hc2, hr3]
  refine hZ _ (pp (Wk_seq (Wk_regionZ fun Z hZ => ?_)))
  simp only [go_sem, seval]
  refine hZ _ (pp (Wk_seq (Wk_seq (Wk_regionZ fun Z hZ => ?_))))
  simp only [go_sem, seval]
  refine hZ _ (pp (Wk_block (Wk_real fun hreal5 => ?_)))
  have hl4 := hreal5.lenT 0 (by decide) (by simp only [go_sem, seval]; rfl)
  first | rw [List.length_map] at hl4 | rw [mxR_len] at hl4 | rw [← List.map_append, List.length_map] at hl4
  refine Wk_range (fun (v7 : Nat) (b : List Lock × List LockGrant) => ⟨tab 60 (updT (updT (updT (updT (updT deadT 0 (.sl false none 4 none (a0.map Lock.row))) 1 (.val (.int .i64 a1))) 6 (.sl false none 4 none (b.1.map Lock.row))) 7 (.pal 57 [] 0 b.2.length none)) 8 (.val (.int .i64 ((v7 : Nat) : Int)))), (upd RZ 57 (.sl true none 3 none (b.2.map LockGrant.row)))⟩) (r2, []) h ?_ ?_
  · refine Weak.trans (weak_adopt 7 57 3 (by simp only [go_sem, seval]) (by simp only [go_sem, seval])) ?_
    refine weak_roots ?_ ?_ <;> repeat' first | exact xn | exact rn | refine xc ?_ ?_ | refine rc ?_ ?_ ?_ | rfl | simp only [go_sem, seval, Bool.or_self, List.length_set, Int.natCast_zero, Int.cast_ofNat_Int, hr1, hc2, hr3]
  rintro v7 ⟨l5, l6⟩ hi6 h -
  rcases (drop_cases a0 v7 hi6).symm with ⟨hi6', _, hd9⟩ | ⟨x10, hi6', hx7, hd9⟩
  · rw [hd9] at h
    simp only [ref29_ReleaseAll_L1] at h
    refine Wk_seq (Wk_seq (Wk_regionZ fun Z hZ => ?_))
    simp only [go_sem, seval, hi6']
    refine hZ _ (pp ?_)
    try simp only [Int.ofNat_lt, hi6', if_true, if_false] at h
    refine Wk_cond_f rfl (Wk_exit (pp (Wk_seq (Wk_regionZ fun Z hZ => ?_))))
    simp only [go_sem, seval]
    refine hZ _ (pp (Wk_ret (pp ?_)))
    cases h
    simp only [go_sem, seval]
    exact ⟨_, rfl, RokI.h⟩
  rw [hd9] at h
  simp only [ref29_ReleaseAll_L1] at h
  have hw8 := wrap_succ hi6' hl4
  refine Wk_seq (Wk_seq (Wk_regionZ fun Z hZ => ?_))
  simp only [go_sem, seval, hi6']
  refine hZ _ (pp ?_)
  try simp only [Int.ofNat_lt, hi6', if_true, if_false] at h
  refine Wk_cond_t rfl (Wk_skip (pp (Wk_seq (Wk_block (Wk_seq (Wk_seq ?_))))))
  try rw [gx_nat hx7] at h
  refine Wk_regionZ fun Z hZ => ?_
  simp only [go_sem, seval, hx7, hi6']
  refine hZ _ (pp (Wk_cond_ndec rfl (fun hc10 => ?_) (fun hc10 => ?_)))
  · have hc10d := decide_eq_false hc10
    rw [if_neg hc10] at h
    refine Wk_exit (pp (Wk_regionZ fun Z hZ => ?_))
    simp only [go_sem, seval, hw8, hc10d]
    refine hZ _ (pp ?_)
    first | refine ⟨(l5, l6), ?_, h⟩ | refine ⟨hi6', (l5, l6), ?_, h⟩
    refine weak_roots ?_ ?_ <;> repeat' first | exact xn | exact rn | refine xc ?_ ?_ | refine rc ?_ ?_ ?_ | rfl | simp only [go_sem, seval, Bool.or_self, List.length_set, Int.natCast_zero, Int.cast_ofNat_Int, hr1, hc2, hr3, hx7, hi6', hw8, hc10d]
  have hc10d := decide_eq_true hc10
  rw [if_pos hc10] at h
  refine Wk_skip (pp (Wk_seq ?_))
  try rw [gx_nat hx7] at h
  obtain ⟨r3, hr11, h⟩ := Option.bind_eq_some_iff.1 h
  refine Wk_regionZ fun Z hZ => ?_
  simp only [go_sem, seval, hx7, hi6', hc10d, hr11]
  refine hZ _ (pp (Wk_seq (Wk_regionZ fun Z hZ => ?_)))
  simp only [go_sem, seval]
  refine hZ _ (pp (Wk_seq ?_))
  obtain ⟨r4, hr12, h⟩ := Option.bind_eq_some_iff.1 h
  refine Wk_regionZ fun Z hZ => ?_
  simp only [go_sem, seval, hr12]
  refine hZ _ (pp (Wk_seq (Wk_regionZ fun Z hZ => ?_)))
  simp only [go_sem, seval]
  refine hZ _ (pp (sw (Wk_cond_ndec rfl) (fun hc13 => ?_) (fun hc13 => ?_)))
  · have hc13d := decide_eq_true hc13
    rw [if_pos hc13] at h
    refine Wk_skip (pp (Wk_regionZ fun Z hZ => ?_))
    simp only [go_sem, seval, hw8, hc13d]
    refine hZ _ (pp ?_)
    first | refine ⟨(r4.1, l6), ?_, h⟩ | refine ⟨hi6', (r4.1, l6), ?_, h⟩
    refine weak_roots ?_ ?_ <;> repeat' first | exact xn | exact rn | refine xc ?_ ?_ | refine rc ?_ ?_ ?_ | rfl | simp only [go_sem, seval, Bool.or_self, List.length_set, Int.natCast_zero, Int.cast_ofNat_Int, hr1, hc2, hr3, hx7, hi6', hw8, hc10d, hr11, hr12, hc13d]
  have hc13d := decide_eq_false hc13
  rw [if_neg hc13] at h
  try rw [gx_nat hx7] at h
  obtain ⟨ha14, h⟩ := apx_some h
  simp only [List.length_cons, List.length_nil, Nat.zero_add, Nat.reduceAdd] at ha14
  refine Wk_regionZ fun Z hZ => ?_
  simp only [go_sem, seval, hx7, hi6', hc13d, ha14]
  refine hZ _ (pp (Wk_regionZ fun Z hZ => ?_))
  simp only [go_sem, seval, hw8]
  refine hZ _ (pp ?_)
  first | refine ⟨(r4.1, (l6 ++ [(LockGrant.mk x10.Actor r4.2)])), ?_, h⟩ | refine ⟨hi6', (r4.1, (l6 ++ [(LockGrant.mk x10.Actor r4.2)])), ?_, h⟩
  refine weak_roots ?_ ?_ <;> repeat' first | exact xn | exact rn | refine xc ?_ ?_ | refine rc ?_ ?_ ?_ | rfl | simp only [go_sem, seval]
def fs_ref29_ReleaseAll (N : Nat) : FnS := ⟨[], false, fn2 (decL 4 Lock.dec) (decI .i64) fun q0 q1 => (ref29_ReleaseAll N q0 q1).map fun r => .tup [.sl false none 4 none (r.1.map Lock.row), .sl false none 3 none (r.2.map LockGrant.row)], false⟩
attribute [go_sem] fs_ref29_ReleaseAll
theorem fs_ref29_ReleaseAll_ok (N : Nat) : FSOk Try.prog 15 (fs_ref29_ReleaseAll N) := ok2 (fun q0 q1 r h => by
  obtain ⟨r', hr, rfl⟩ := Option.map_eq_some_iff.1 h
  exact (w_ref29_ReleaseAll N q0 q1 r' hr).res (by (try simp only [go_sem]); exact RokI.h)) (fun h => decL_le Lock.dec_le h) (decI_le)

def fso_ref29_ReleaseAll (N : Nat) : FnS := ⟨[], false, fn2 (decL 4 Lock.dec) (decI .i64) fun q0 q1 => (ref29_ReleaseAll N q0 q1).map fun r => .tup [.sl false none 4 none (r.1.map Lock.row), .sl true none 3 none (r.2.map LockGrant.row)], false⟩
attribute [go_sem] fso_ref29_ReleaseAll
theorem fso_ref29_ReleaseAll_ok (N : Nat) : FSOk Try.prog 15 (fso_ref29_ReleaseAll N) := ok2 (fun q0 q1 r h => by
  obtain ⟨r', hr, rfl⟩ := Option.map_eq_some_iff.1 h
  exact w_ref29_ReleaseAll N q0 q1 r' hr) (fun h => decL_le Lock.dec_le h) (decI_le)


theorem w_ref29_SameGrants (N : Nat) (a0 : (List LockGrant)) (a1 : (List LockGrant)) (r : Bool) (h : ref29_SameGrants N a0 a1 = some r) : Con Try.prog 16 [] true [.sl false none 3 none (a0.map LockGrant.row), .sl false none 3 none (a1.map LockGrant.row)] (.val (.bool r)) := by
  refine fun_ok4 (G := (glist [])) Try.func16 rfl (by decide) (by kernel_rfl) gn [] mix (Nat.le_of_ble_eq_true rfl) ?_
  simp only [Try.f16]
  unfold ref29_SameGrants at h
  refine Wk_seq (Wk_regionZ fun Z hZ => ?_)
  simp only [go_sem, seval]
  refine hZ _ (pp (Wk_seq (Wk_seq (Wk_regionZ fun Z hZ => ?_))))
  simp only [go_sem, seval]
  refine hZ _ (pp (Wk_cond_ndec rfl (fun hc1 => ?_) (fun hc1 => ?_)))
  · have hc1d := decide_eq_false hc1
    rw [if_neg hc1] at h
    refine Wk_seq (Wk_regionZ fun Z hZ => ?_)
    simp only [go_sem, seval, hc1d]
    refine hZ _ (pp (Wk_ret (pp ?_)))
    cases h
    simp only [go_sem, seval]
    exact ⟨_, rfl, RokI.h, PureI.h⟩
  have hc1d := decide_eq_true hc1
  rw [if_pos hc1] at h
  refine Wk_skip (pp (Wk_seq (Wk_seq (Wk_regionZ fun Z hZ => ?_))))
  simp only [go_sem, seval, hc1d]
  refine hZ _ (pp (Wk_block (Wk_real fun hreal3 => ?_)))
  have hl2 := hreal3.lenT 0 (by decide) (by simp only [go_sem, seval]; rfl)
  first | rw [List.length_map] at hl2 | rw [mxR_len] at hl2 | rw [← List.map_append, List.length_map] at hl2
  refine Wk_range (fun (v3 : Nat) (b : Unit) => ⟨tab 26 (updT (updT (updT deadT 0 (.sl false none 3 none (a0.map LockGrant.row))) 1 (.sl false none 3 none (a1.map LockGrant.row))) 5 (.val (.int .i64 ((v3 : Nat) : Int)))), RZ⟩) () h ?_ ?_
  · refine weak_roots ?_ ?_ <;> repeat' first | exact xn | exact rn | refine xc ?_ ?_ | refine rc ?_ ?_ ?_ | rfl
  rintro v3 ⟨⟩ hi4 h -
  rcases (drop_cases a0 v3 hi4).symm with ⟨hi4', _, hd7⟩ | ⟨x6, hi4', hx5, hd7⟩
  · rw [hd7] at h
    simp only [ref29_SameGrants_L1] at h
    refine Wk_seq (Wk_seq (Wk_regionZ fun Z hZ => ?_))
    simp only [go_sem, seval, hi4']
    refine hZ _ (pp ?_)
    try simp only [Int.ofNat_lt, hi4', if_true, if_false] at h
    refine Wk_cond_f rfl (Wk_exit (pp (Wk_seq (Wk_regionZ fun Z hZ => ?_))))
    simp only [go_sem, seval]
    refine hZ _ (pp (Wk_ret (pp ?_)))
    cases h
    simp only [go_sem, seval]
    exact ⟨_, rfl, RokI.h, PureI.h⟩
  rw [hd7] at h
  simp only [ref29_SameGrants_L1] at h
  have hw6 := wrap_succ hi4' hl2
  refine Wk_seq (Wk_seq (Wk_regionZ fun Z hZ => ?_))
  simp only [go_sem, seval, hi4']
  refine hZ _ (pp ?_)
  try simp only [Int.ofNat_lt, hi4', if_true, if_false] at h
  refine Wk_cond_t rfl (Wk_skip (pp (Wk_seq (Wk_block (Wk_seq ?_)))))
  try rw [gx_nat hx5] at h
  obtain ⟨x1, hb8, hx9, h⟩ := gx_some h
  try simp only [Int.toNat_natCast] at hx9
  try simp only [Int.ofNat_lt, Int.natCast_nonneg, true_and] at hb8
  refine Wk_regionD fun Z hZ => ?_
  simp only [go_sem, seval, hx5, hi4', hb8, hx9]
  refine hZ _ (by kernel_rfl) (pp (Wk_cond_nbool rfl (fun hc10 => ?_) (fun hc10 => ?_)))
  · rw [if_neg (ne_true_of_eq_false hc10)] at h
    refine Wk_seq (Wk_regionZ fun Z hZ => ?_)
    simp only [go_sem, seval, hc10]
    refine hZ _ (pp (Wk_ret (pp ?_)))
    cases h
    simp only [go_sem, seval]
    exact ⟨_, rfl, RokI.h, PureI.h⟩
  rw [if_pos hc10] at h
  refine Wk_skip (pp (Wk_regionZ fun Z hZ => ?_))
  simp only [go_sem, seval, hw6, hc10]
  refine hZ _ (pp ?_)
  first | refine ⟨(), ?_, h⟩ | refine ⟨hi4', (), ?_, h⟩
  refine weak_roots ?_ ?_ <;> repeat' first | exact xn | exact rn | refine xc ?_ ?_ | refine rc ?_ ?_ ?_ | rfl
def fs_ref29_SameGrants (N : Nat) : FnS := ⟨[], true, fn2 (decL 3 LockGrant.dec) (decL 3 LockGrant.dec) fun q0 q1 => (ref29_SameGrants N q0 q1).map fun r => .val (.bool r), false⟩
attribute [go_sem] fs_ref29_SameGrants
theorem fs_ref29_SameGrants_ok (N : Nat) : FSOk Try.prog 16 (fs_ref29_SameGrants N) := ok2 (fun q0 q1 r h => by
  obtain ⟨r', hr, rfl⟩ := Option.map_eq_some_iff.1 h
  exact w_ref29_SameGrants N q0 q1 r' hr) (fun h => decL_le LockGrant.dec_le h) (fun h => decL_le LockGrant.dec_le h)


noncomputable def G_ref29_Withdraw (N d f : Nat) : Option FnS := glist [(10, 30, fs_ref29_ValidLocks N), (13, 34, fso_ref29_CopyLocks N)] d f
attribute [go_sem] G_ref29_Withdraw
theorem w_ref29_Withdraw (N : Nat) (a0 : (List Lock)) (a1 : Int) (r : (List Lock)) (h : ref29_Withdraw N a0 a1 = some r) : Con Try.prog 18 [] false [.sl false none 4 none (a0.map Lock.row), .val (.int .i64 a1)] (.sl true none 4 none (r.map Lock.row)) := by
  refine fun_ok4 (G := (G_ref29_Withdraw N)) Try.func18 rfl (by decide) (by kernel_rfl) (gc 10 (fs_ref29_ValidLocks_ok N) (gc 13 (fso_ref29_CopyLocks_ok N) gn)) [] mix (Nat.le_of_ble_eq_true rfl) ?_
  simp only [Try.f18]
  unfold ref29_Withdraw at h
  refine Wk_seq (Wk_regionZ fun Z hZ => ?_)
  simp only [go_sem, seval]
  refine hZ _ (pp (Wk_seq (Wk_seq ?_)))
  obtain ⟨r1, hr1, h⟩ := Option.bind_eq_some_iff.1 h
  refine Wk_regionZ fun Z hZ => ?_
  simp only [go_sem, seval, hr1]
  refine hZ _ (pp (Wk_cond_nbool rfl (fun hc2 => ?_) (fun hc2 => ?_)))
  · rw [if_neg (ne_true_of_eq_false hc2)] at h
    refine Wk_seq (Wk_regionZ fun Z hZ => ?_)
    simp only [go_sem, seval, hc2]
    refine hZ _ (pp (Wk_ret (pp ?_)))
    cases h
    simp only [go_sem, seval]
    exact ⟨_, rfl, RokI.h⟩
  rw [if_pos hc2] at h
  refine Wk_skip (pp (Wk_seq ?_))
  obtain ⟨r2, hr3, h⟩ := Option.bind_eq_some_iff.1 h
  refine Wk_regionZ fun Z hZ => ?_
  simp only [go_sem, seval, hc2, hr3]
  refine hZ _ (pp (Wk_seq (Wk_seq (Wk_regionZ fun Z hZ => ?_))))
  simp only [go_sem, seval]
  refine hZ _ (pp (Wk_block (Wk_fuel (fun (b : List Lock × Int) => ⟨tab 57 (updT (updT (updT deadT 1 (.val (.int .i64 a1))) 5 (.pal 13 [] 0 b.1.length none)) 6 (.val (.int .i64 b.2))), (upd RZ 13 (.sl true none 4 none (b.1.map Lock.row)))⟩) (r2, 0) h ?_ ?_)))
  · refine weak_roots ?_ ?_ <;> repeat' first | exact xn | exact rn | refine xc ?_ ?_ | refine rc ?_ ?_ ?_ | rfl | simp only [go_sem, seval, Bool.or_self, List.length_set, Int.natCast_zero, Int.cast_ofNat_Int, hr1, hc2, hr3]
  rintro n ⟨l5, v6⟩ h -
  cases n with
  | zero => simp [ref29_Withdraw_L1] at h
  | succ n =>
  simp only [ref29_Withdraw_L1] at h
  refine Wk_seq (Wk_seq (Wk_regionZ fun Z hZ => ?_))
  simp only [go_sem, seval]
  refine hZ _ (pp (sw (Wk_cond_dec rfl) (fun hc4 => ?_) (fun hc4 => ?_)))
  · have hc4d := decide_eq_false hc4
    rw [if_neg hc4] at h
    refine Wk_exit (pp (Wk_seq (Wk_regionZ fun Z hZ => ?_)))
    simp only [go_sem, seval, hc4d]
    refine hZ _ (pp (Wk_ret (pp ?_)))
    cases h
    simp only [go_sem, seval]
    exact ⟨_, rfl, RokI.h⟩
  have hc4d := decide_eq_true hc4
  rw [if_pos hc4] at h
  refine Wk_skip (pp (Wk_seq (Wk_block (Wk_seq (Wk_regionZ fun Z hZ => ?_)))))
  simp only [go_sem, seval, hc4d]
  refine hZ _ (pp (Wk_seq (Wk_seq (Wk_regionZ fun Z hZ => ?_))))
  simp only [go_sem, seval]
  refine hZ _ (pp (Wk_block (Wk_fuel (fun (b : List Int × Int) => ⟨tab 57 (updT (updT (updT (updT (updT deadT 1 (.val (.int .i64 a1))) 5 (.pal 13 [] 0 l5.length none)) 6 (.val (.int .i64 v6))) 7 (.pal 50 [] 0 b.1.length none)) 8 (.val (.int .i64 b.2))), (upd (upd RZ 13 (.sl true none 4 none (l5.map Lock.row))) 50 (.sl true none 1 none (b.1.map (rowI .i64))))⟩) ([], 0) h ?_ ?_)))
  · refine Weak.trans (weak_adopt 7 50 1 (by simp only [go_sem, seval]) (by simp only [go_sem, seval])) ?_
    refine weak_roots ?_ ?_ <;> repeat' first | exact xn | exact rn | refine xc ?_ ?_ | refine rc ?_ ?_ ?_ | rfl | simp only [go_sem, seval, Bool.or_self, List.length_set, Int.natCast_zero, Int.cast_ofNat_Int, hr1, hc2, hr3, hc4d]
  rintro n ⟨l11, v12⟩ h -
  cases n with
  | zero => simp [ref29_Withdraw_L2] at h
  | succ n =>
  simp only [ref29_Withdraw_L2] at h
  refine Wk_seq (Wk_seq ?_)
  obtain ⟨x13, hb5, hx6, h⟩ := gx_some h
  refine Wk_regionZ fun Z hZ => ?_
  simp only [go_sem, seval, hb5, hx6]
  refine hZ _ (pp (Wk_cond_dec rfl (fun hc7 => ?_) (fun hc7 => ?_)))
  · have hc7d := decide_eq_true hc7
    rw [if_pos hc7] at h
    refine Wk_skip (pp (Wk_seq (Wk_block (Wk_seq ?_))))
    obtain ⟨x14, hb8, hx9, h⟩ := gx_some h
    refine Wk_regionZ fun Z hZ => ?_
    simp only [go_sem, seval, hb5, hx6, hb8, hx9]
    refine hZ _ (pp (sw (Wk_cond_ndec rfl) (fun hc10 => ?_) (fun hc10 => ?_)))
    · have hc10d := decide_eq_true hc10
      rw [if_pos hc10] at h
      refine Wk_skip (pp (Wk_regionZ fun Z hZ => ?_))
      simp only [go_sem, seval, hc10d]
      refine hZ _ (pp (⟨_, Nat.lt_succ_self _, (l11, IntKind.i64.wrap (v12 + 1)), ?_, h⟩))
      refine weak_roots ?_ ?_ <;> repeat' first | exact xn | exact rn | refine xc ?_ ?_ | refine rc ?_ ?_ ?_ | rfl | simp only [go_sem, seval, Bool.or_self, List.length_set, Int.natCast_zero, Int.cast_ofNat_Int, hr1, hc2, hr3, hc4d, hb5, hx6, hc7d, hb8, hx9, hc10d]
    have hc10d := decide_eq_false hc10
    rw [if_neg hc10] at h
    obtain ⟨ha11, h⟩ := apx_some h
    simp only [List.length_cons, List.length_nil, Nat.zero_add, Nat.reduceAdd] at ha11
    refine Wk_regionZ fun Z hZ => ?_
    simp only [go_sem, seval, hb5, hx6, hb8, hx9, hc10d, ha11]
    refine hZ _ (pp (Wk_regionZ fun Z hZ => ?_))
    simp only [go_sem, seval]
    refine hZ _ (pp (⟨_, Nat.lt_succ_self _, ((l11 ++ [x14]), IntKind.i64.wrap (v12 + 1)), ?_, h⟩))
    refine weak_roots ?_ ?_ <;> repeat' first | exact xn | exact rn | refine xc ?_ ?_ | refine rc ?_ ?_ ?_ | rfl | simp only [go_sem, seval]
  have hc7d := decide_eq_false hc7
  rw [if_neg hc7] at h
  refine Wk_exit (pp ?_)
  unfold ref29_Withdraw_J1 at h
  obtain ⟨x15, hb12, hx13, h⟩ := gx_some h
  obtain rfl := get_same hx6 hx13
  refine Wk_regionZ fun Z hZ => ?_
  simp only [go_sem, seval, hb5, hx6, hc7d, over_of (row := Lock.row) (rx := [.val (.string x13.Actor.Type_), .val (.string x13.Actor.Key), .val (.int .i64 x13.Owner), .sl false none 1 none (x13.Waiters.map (rowI .i64))]) hx6 rfl rfl]
  refine hZ _ (pp (Wk_regionZ fun Z hZ => ?_))
  simp only [go_sem, seval]
  refine hZ _ (pp (⟨_, Nat.lt_succ_self _, ((l5.set ((v6).toNat) (Lock.mk x13.Actor x13.Owner l11)), IntKind.i64.wrap (v6 + 1)), ?_, h⟩))
  refine Weak.trans (weak_fold (n := 13) (Lock.mk x13.Actor x13.Owner l11) [.val (.string x13.Actor.Type_), .val (.string x13.Actor.Key), .val (.int .i64 x13.Owner), .sl false none 1 none (l11.map (rowI .i64))] (by simp only [go_sem, seval]; rfl) rfl) ?_
  refine weak_roots ?_ ?_ <;> repeat' first | exact xn | exact rn | refine xc ?_ ?_ | refine rc ?_ ?_ ?_ | rfl | simp only [go_sem, seval, Bool.or_self, List.length_set]
def fs_ref29_Withdraw (N : Nat) : FnS := ⟨[], false, fn2 (decL 4 Lock.dec) (decI .i64) fun q0 q1 => (ref29_Withdraw N q0 q1).map fun r => .sl false none 4 none (r.map Lock.row), false⟩
attribute [go_sem] fs_ref29_Withdraw
theorem fs_ref29_Withdraw_ok (N : Nat) : FSOk Try.prog 18 (fs_ref29_Withdraw N) := ok2 (fun q0 q1 r h => by
  obtain ⟨r', hr, rfl⟩ := Option.map_eq_some_iff.1 h
  exact (w_ref29_Withdraw N q0 q1 r' hr).res (by (try simp only [go_sem]); exact RokI.h)) (fun h => decL_le Lock.dec_le h) (decI_le)

def fso_ref29_Withdraw (N : Nat) : FnS := ⟨[], false, fn2 (decL 4 Lock.dec) (decI .i64) fun q0 q1 => (ref29_Withdraw N q0 q1).map fun r => .sl true none 4 none (r.map Lock.row), false⟩
attribute [go_sem] fso_ref29_Withdraw
theorem fso_ref29_Withdraw_ok (N : Nat) : FSOk Try.prog 18 (fso_ref29_Withdraw N) := ok2 (fun q0 q1 r h => by
  obtain ⟨r', hr, rfl⟩ := Option.map_eq_some_iff.1 h
  exact w_ref29_Withdraw N q0 q1 r' hr) (fun h => decL_le Lock.dec_le h) (decI_le)


noncomputable def G_law31_LocksSequences (N d f : Nat) : Option FnS := glist [(24, 7, fs_law31_awake N), (48, 8, fs_law31_ref N), (69, 9, fs_locks_Acquire N), (77, 10, fs_ref29_Acquire N), (92, 11, fs_ref29_SameLocks N), (105, 12, fs_locks_Release N), (113, 13, fs_ref29_Release N), (128, 11, fs_ref29_SameLocks N), (140, 14, fs_locks_ReleaseAll N), (146, 15, fs_ref29_ReleaseAll N), (151, 16, fs_ref29_SameGrants N), (57, 17, fs_locks_Withdraw N), (60, 18, fs_ref29_Withdraw N), (157, 11, fs_ref29_SameLocks N)] d f
attribute [go_sem] G_law31_LocksSequences
theorem w_law31_LocksSequences (N : Nat) (a0 : (List actorgridlaw31_Act)) (r : Bool) (h : law31_LocksSequences N a0 = some r) : Con Try.prog 3 [] true [.sl false none 3 none (a0.map actorgridlaw31_Act.row)] (.val (.bool r)) := by
  refine fun_ok4 (G := (G_law31_LocksSequences N)) Try.func3 rfl (by decide) (by kernel_rfl) (gc 24 (fs_law31_awake_ok N) (gc 48 (fs_law31_ref_ok N) (gc 69 (fs_locks_Acquire_ok N) (gc 77 (fs_ref29_Acquire_ok N) (gc 92 (fs_ref29_SameLocks_ok N) (gc 105 (fs_locks_Release_ok N) (gc 113 (fs_ref29_Release_ok N) (gc 128 (fs_ref29_SameLocks_ok N) (gc 140 (fs_locks_ReleaseAll_ok N) (gc 146 (fs_ref29_ReleaseAll_ok N) (gc 151 (fs_ref29_SameGrants_ok N) (gc 57 (fs_locks_Withdraw_ok N) (gc 60 (fs_ref29_Withdraw_ok N) (gc 157 (fs_ref29_SameLocks_ok N) gn)))))))))))))) [] mix (Nat.le_of_ble_eq_true rfl) ?_
  simp only [Try.f3]
  unfold law31_LocksSequences at h
  refine Wk_seq (Wk_regionZ fun Z hZ => ?_)
  simp only [go_sem, seval]
  refine hZ _ (pp (Wk_seq (Wk_seq ?_)))
  obtain ⟨r1, hr1, h⟩ := Option.bind_eq_some_iff.1 h
  refine Wk_regionZ fun Z hZ => ?_
  simp only [go_sem, seval, hr1]
  refine hZ _ (pp (Wk_cond_nbool rfl (fun hc2 => ?_) (fun hc2 => ?_)))
  · rw [if_neg (ne_true_of_eq_false hc2)] at h
    refine Wk_seq (Wk_regionZ fun Z hZ => ?_)
    simp only [go_sem, seval, hc2]
    refine hZ _ (pp (Wk_ret (pp ?_)))
    cases h
    simp only [go_sem, seval]
    exact ⟨_, rfl, RokI.h, PureI.h⟩
  rw [if_pos hc2] at h
  refine Wk_skip (pp (Wk_seq (Wk_seq (Wk_regionZ fun Z hZ => ?_))))
  simp only [go_sem, seval, hc2]
  refine hZ _ (pp (Wk_cond_dec rfl (fun hc3 => ?_) (fun hc3 => ?_)))
  · have hc3d := decide_eq_true hc3
    rw [if_pos hc3] at h
    refine Wk_seq (Wk_regionZ fun Z hZ => ?_)
    simp only [go_sem, seval, hc3d]
    refine hZ _ (pp (Wk_ret (pp ?_)))
    cases h
    simp only [go_sem, seval]
    exact ⟨_, rfl, RokI.h, PureI.h⟩
  have hc3d := decide_eq_false hc3
  rw [if_neg hc3] at h
  refine Wk_skip (pp (Wk_seq (Wk_regionZ fun Z hZ => ?_)))
  simp only [go_sem, seval, hc3d]
  refine hZ _ (pp (Wk_seq (Wk_seq (Wk_regionZ fun Z hZ => ?_))))
  simp only [go_sem, seval]
  refine hZ _ (pp (Wk_block (Wk_real fun hreal5 => ?_)))
  have hl4 := hreal5.lenT 0 (by decide) (by simp only [go_sem, seval]; rfl)
  first | rw [List.length_map] at hl4 | rw [mxR_len] at hl4 | rw [← List.map_append, List.length_map] at hl4
  refine Wk_range (fun (v7 : Nat) (b : List Lock × List Lock) => ⟨tab 159 (updT (updT (updT (updT deadT 0 (.sl false none 3 none (a0.map actorgridlaw31_Act.row))) 3 (.sl false none 4 none (b.1.map Lock.row))) 4 (.sl false none 4 none (b.2.map Lock.row))) 5 (.val (.int .i64 ((v7 : Nat) : Int)))), RZ⟩) ([], []) h ?_ ?_
  · refine Weak.trans (weak_nilT 3 4 (by simp only [go_sem, seval])) (Weak.trans (weak_nilT 4 4 (by simp only [go_sem, seval])) ?_)
    refine weak_roots ?_ ?_ <;> repeat' first | exact xn | exact rn | refine xc ?_ ?_ | refine rc ?_ ?_ ?_ | rfl | simp only [go_sem, seval, Bool.or_self, List.length_set, Int.natCast_zero, Int.cast_ofNat_Int, hr1, hc2, hc3d]
  rintro v7 ⟨l5, l6⟩ hi6 h -
  rcases (drop_cases a0 v7 hi6).symm with ⟨hi6', _, hd9⟩ | ⟨x10, hi6', hx7, hd9⟩
  · rw [hd9] at h
    simp only [law31_LocksSequences_L1] at h
    refine Wk_seq (Wk_seq (Wk_regionZ fun Z hZ => ?_))
    simp only [go_sem, seval, hi6']
    refine hZ _ (pp ?_)
    try simp only [Int.ofNat_lt, hi6', if_true, if_false] at h
    refine Wk_cond_f rfl (Wk_exit (pp (Wk_seq (Wk_regionZ fun Z hZ => ?_))))
    simp only [go_sem, seval]
    refine hZ _ (pp (Wk_ret (pp ?_)))
    cases h
    simp only [go_sem, seval]
    exact ⟨_, rfl, RokI.h, PureI.h⟩
  rw [hd9] at h
  simp only [law31_LocksSequences_L1] at h
  have hw8 := wrap_succ hi6' hl4
  refine Wk_seq (Wk_seq (Wk_regionZ fun Z hZ => ?_))
  simp only [go_sem, seval, hi6']
  refine hZ _ (pp ?_)
  try simp only [Int.ofNat_lt, hi6', if_true, if_false] at h
  refine Wk_cond_t rfl (Wk_skip (pp (Wk_seq (Wk_block (Wk_seq ?_)))))
  try rw [gx_nat hx7] at h
  try rw [gx_nat hx7] at h
  obtain ⟨r2, hr10, h⟩ := Option.bind_eq_some_iff.1 h
  refine Wk_regionD fun Z hZ => ?_
  simp only [go_sem, seval, hx7, hi6', hr10]
  repeat with_reducible refine and_bar (by kernel_rfl) ?_
  refine hZ _ (by kernel_rfl) (pp ?_)
  apply Wk_join2 (fun (l23 : List Lock) (l24 : List Lock) => ⟨tab 159 (updT (updT (updT (updT deadT 0 (.sl false none 3 none (a0.map actorgridlaw31_Act.row))) 3 (.sl false none 4 none (l23.map Lock.row))) 4 (.sl false none 4 none (l24.map Lock.row))) 5 (.val (.int .i64 ((v7 : Nat) : Int)))), RZ⟩)
  · intro hJ11
    refine Wk_seq ?_
    try rw [gx_nat hx7] at h
    refine Wk_regionZ fun Z hZ => ?_
    simp only [go_sem, seval, hx7, hi6']
    refine hZ _ (pp (Wk_block ?_))
    apply Wk_join1 (fun (c25 : Bool) => ⟨tab 159 (updT (updT (updT (updT (updT (updT (updT (updT deadT 0 (.sl false none 3 none (a0.map actorgridlaw31_Act.row))) 3 (.sl false none 4 none (l5.map Lock.row))) 4 (.sl false none 4 none (l6.map Lock.row))) 5 (.val (.int .i64 ((v7 : Nat) : Int)))) 6 (.val (.int .i64 (IntKind.i64.wrap ((IntKind.i64.wrap (Int.tmod x10.Txn 40)) + 1))))) 7 (.pref 7 [] 0 0)) 54 (.val (.int .u8 (Int.tmod x10.Kind 6)))) 61 (.val (.bool c25))), (upd RZ 7 (.sl true none 2 (some 1) [[.val (.string r2.Type_), .val (.string r2.Key)]]))⟩)
    · intro hJ12
      refine Wk_seq (Wk_regionZ fun Z hZ => ?_)
      simp only [go_sem, seval]
      refine hZ _ (pp (Wk_cond_dec rfl (fun hc13 => ?_) (fun hc13 => ?_)))
      · have hc13d := decide_eq_true hc13
        rw [if_pos hc13] at h
        refine Wk_skip (pp (hJ12 _ true ?_ h))
        refine weak_roots ?_ ?_ <;> repeat' first | exact xn | exact rn | refine xc ?_ ?_ | refine rc ?_ ?_ ?_ | rfl | simp only [go_sem, seval, hc13d]
      have hc13d := decide_eq_false hc13
      rw [if_neg hc13] at h
      refine Wk_seq (Wk_regionZ fun Z hZ => ?_)
      simp only [go_sem, seval, hc13d]
      refine hZ _ (pp (Wk_cond_dec rfl (fun hc14 => ?_) (fun hc14 => ?_)))
      · have hc14d := decide_eq_true hc14
        rw [if_pos hc14] at h
        refine Wk_skip (pp (hJ12 _ true ?_ h))
        refine weak_roots ?_ ?_ <;> repeat' first | exact xn | exact rn | refine xc ?_ ?_ | refine rc ?_ ?_ ?_ | rfl | simp only [go_sem, seval, hc14d]
      have hc14d := decide_eq_false hc14
      rw [if_neg hc14] at h
      refine Wk_regionZ fun Z hZ => ?_
      simp only [go_sem, seval, hc14d]
      refine hZ _ (pp (hJ12 _ (decide ((Int.tmod x10.Kind 6) = 2)) ?_ h))
      refine weak_roots ?_ ?_ <;> repeat' first | exact xn | exact rn | refine xc ?_ ?_ | refine rc ?_ ?_ ?_ | rfl | simp only [go_sem, seval, Bool.or_self, List.length_set, Int.natCast_zero, Int.cast_ofNat_Int, hr1, hc2, hc3d, hx7, hi6', hw8, hr10, hc13d, hc14d]
    intro c25 h
    unfold law31_LocksSequences_J5 at h
    refine Wk_cond_bool rfl (fun hc15 => ?_) (fun hc15 => ?_)
    · rw [if_pos hc15] at h
      refine Wk_seq ?_
      obtain ⟨r26, hr16, h⟩ := Option.bind_eq_some_iff.1 h
      refine Wk_regionZ fun Z hZ => ?_
      simp only [go_sem, seval, hc15, hr16]
      refine hZ _ (pp (Wk_seq ?_))
      obtain ⟨r27, hr17, h⟩ := Option.bind_eq_some_iff.1 h
      refine Wk_regionZ fun Z hZ => ?_
      simp only [go_sem, seval, hr17]
      refine hZ _ (pp (Wk_seq ?_))
      apply Wk_join1 (fun (c32 : Bool) => ⟨tab 159 (updT (updT (updT (updT (updT (updT (updT (updT deadT 0 (.sl false none 3 none (a0.map actorgridlaw31_Act.row))) 3 (.sl false none 4 none (l5.map Lock.row))) 4 (.sl false none 4 none (l6.map Lock.row))) 5 (.val (.int .i64 ((v7 : Nat) : Int)))) 8 (.sl false none 4 none (r26.1.map Lock.row))) 10 (.val (.int .i64 r26.2.2))) 11 (.sl false none 4 none (r27.1.map Lock.row))) 94 (.val (.bool c32))), RZ⟩)
      · intro hJ18
        refine Wk_regionZ fun Z hZ => ?_
        simp only [go_sem, seval]
        refine RX_guard_ndec rfl (fun hc19 => ?_) (fun hc19 => ?_)
        · have hc19d := decide_eq_false hc19
          rw [if_neg hc19] at h
          simp only [go_sem, seval, hc19d]
          refine hZ _ (pp (hJ18 _ true ?_ h))
          refine weak_roots ?_ ?_ <;> repeat' first | exact xn | exact rn | refine xc ?_ ?_ | refine rc ?_ ?_ ?_ | rfl | simp only [go_sem, seval, Bool.or_self, List.length_set, Int.natCast_zero, Int.cast_ofNat_Int, hr1, hc2, hc3d, hx7, hi6', hw8, hr10, hc15, hr16, hr17, hc19d]
        have hc19d := decide_eq_true hc19
        rw [if_pos hc19] at h
        simp only [go_sem, seval, hc19d]
        refine RX_guard_ndec rfl (fun hc20 => ?_) (fun hc20 => ?_)
        · have hc20d := decide_eq_false hc20
          rw [if_neg hc20] at h
          simp only [go_sem, seval, hc20d]
          refine hZ _ (pp (hJ18 _ true ?_ h))
          refine weak_roots ?_ ?_ <;> repeat' first | exact xn | exact rn | refine xc ?_ ?_ | refine rc ?_ ?_ ?_ | rfl | simp only [go_sem, seval, Bool.or_self, List.length_set, Int.natCast_zero, Int.cast_ofNat_Int, hr1, hc2, hc3d, hx7, hi6', hw8, hr10, hc15, hr16, hr17, hc19d, hc20d]
        have hc20d := decide_eq_true hc20
        rw [if_pos hc20] at h
        obtain ⟨r33, hr21, h⟩ := Option.bind_eq_some_iff.1 h
        simp only [go_sem, seval, hc20d, hr21]
        refine hZ _ (pp (hJ18 _ (!r33) ?_ h))
        refine weak_roots ?_ ?_ <;> repeat' first | exact xn | exact rn | refine xc ?_ ?_ | refine rc ?_ ?_ ?_ | rfl | simp only [go_sem, seval, Bool.or_self, List.length_set, Int.natCast_zero, Int.cast_ofNat_Int, hr1, hc2, hc3d, hx7, hi6', hw8, hr10, hc15, hr16, hr17, hc19d, hc20d, hr21]
      intro c32 h
      unfold law31_LocksSequences_J1 at h
      refine Wk_cond_bool rfl (fun hc22 => ?_) (fun hc22 => ?_)
      · rw [if_pos hc22] at h
        refine Wk_seq (Wk_regionZ fun Z hZ => ?_)
        simp only [go_sem, seval, hc22]
        refine hZ _ (pp (Wk_ret (pp ?_)))
        cases h
        simp only [go_sem, seval]
        exact ⟨_, rfl, RokI.h, PureI.h⟩
      rw [if_neg (ne_true_of_eq_false hc22)] at h
      refine Wk_skip (pp ?_)
      unfold law31_LocksSequences_J2 at h
      refine Wk_seq (Wk_regionZ fun Z hZ => ?_)
      simp only [go_sem, seval, hc22]
      refine hZ _ (pp (Wk_cond_dec rfl (fun hc23 => ?_) (fun hc23 => ?_)))
      · have hc23d := decide_eq_true hc23
        rw [if_pos hc23] at h
        refine Wk_regionZ fun Z hZ => ?_
        simp only [go_sem, seval, hc23d]
        refine hZ _ (pp (hJ11 _ r26.1 r27.1 ?_ h))
        refine weak_roots ?_ ?_ <;> repeat' first | exact xn | exact rn | refine xc ?_ ?_ | refine rc ?_ ?_ ?_ | rfl | simp only [go_sem, seval, Bool.or_self, List.length_set, Int.natCast_zero, Int.cast_ofNat_Int, hr1, hc2, hc3d, hx7, hi6', hw8, hr10, hc15, hr16, hr17, hc22, hc23d]
      have hc23d := decide_eq_false hc23
      rw [if_neg hc23] at h
      refine Wk_skip (pp (hJ11 _ l5 l6 ?_ h))
      refine weak_roots ?_ ?_ <;> repeat' first | exact xn | exact rn | refine xc ?_ ?_ | refine rc ?_ ?_ ?_ | rfl | simp only [go_sem, seval, Bool.or_self, List.length_set, Int.natCast_zero, Int.cast_ofNat_Int, hr1, hc2, hc3d, hx7, hi6', hw8, hr10, hc15, hr16, hr17, hc22, hc23d]
    rw [if_neg (ne_true_of_eq_false hc15)] at h
    refine Wk_seq (Wk_regionZ fun Z hZ => ?_)
    simp only [go_sem, seval, hc15]
    refine hZ _ (pp (sw (Wk_cond_dec rfl) (fun hc24 => ?_) (fun hc24 => ?_)))
    · have hc24d := decide_eq_false hc24
      rw [if_neg hc24] at h
      refine Wk_seq (Wk_regionZ fun Z hZ => ?_)
      simp only [go_sem, seval, hc24d]
      refine hZ _ (pp (sw (Wk_cond_dec rfl) (fun hc33 => ?_) (fun hc33 => ?_)))
      · have hc33d := decide_eq_false hc33
        rw [if_neg hc33] at h
        obtain ⟨r45, hr38, h⟩ := Option.bind_eq_some_iff.1 h
        obtain ⟨r46, hr39, h⟩ := Option.bind_eq_some_iff.1 h
        refine Wk_regionZ fun Z hZ => ?_
        simp only [go_sem, seval, hc33d, hr38, hr39]
        refine hZ _ (pp (hJ11 _ r45 r46 ?_ h))
        refine weak_roots ?_ ?_ <;> repeat' first | exact xn | exact rn | refine xc ?_ ?_ | refine rc ?_ ?_ ?_ | rfl | simp only [go_sem, seval, Bool.or_self, List.length_set, Int.natCast_zero, Int.cast_ofNat_Int, hr1, hc2, hc3d, hx7, hi6', hw8, hr10, hc15, hc24d, hc33d, hr38, hr39]
      have hc33d := decide_eq_true hc33
      rw [if_pos hc33] at h
      refine Wk_seq ?_
      obtain ⟨r42, hr34, h⟩ := Option.bind_eq_some_iff.1 h
      refine Wk_regionZ fun Z hZ => ?_
      simp only [go_sem, seval, hc33d, hr34]
      refine hZ _ (pp (Wk_seq ?_))
      obtain ⟨r43, hr35, h⟩ := Option.bind_eq_some_iff.1 h
      refine Wk_regionZ fun Z hZ => ?_
      simp only [go_sem, seval, hr35]
      refine hZ _ (pp (Wk_seq (Wk_seq ?_)))
      obtain ⟨r44, hr36, h⟩ := Option.bind_eq_some_iff.1 h
      refine Wk_regionZ fun Z hZ => ?_
      simp only [go_sem, seval, hr36]
      refine hZ _ (pp (Wk_cond_nbool rfl (fun hc37 => ?_) (fun hc37 => ?_)))
      · rw [if_neg (ne_true_of_eq_false hc37)] at h
        refine Wk_seq (Wk_regionZ fun Z hZ => ?_)
        simp only [go_sem, seval, hc37]
        refine hZ _ (pp (Wk_ret (pp ?_)))
        cases h
        simp only [go_sem, seval]
        exact ⟨_, rfl, RokI.h, PureI.h⟩
      rw [if_pos hc37] at h
      refine Wk_skip (pp (Wk_regionZ fun Z hZ => ?_))
      simp only [go_sem, seval, hc37]
      refine hZ _ (pp (hJ11 _ r42.1 r43.1 ?_ h))
      refine weak_roots ?_ ?_ <;> repeat' first | exact xn | exact rn | refine xc ?_ ?_ | refine rc ?_ ?_ ?_ | rfl | simp only [go_sem, seval, Bool.or_self, List.length_set, Int.natCast_zero, Int.cast_ofNat_Int, hr1, hc2, hc3d, hx7, hi6', hw8, hr10, hc15, hc24d, hc33d, hr34, hr35, hr36, hc37]
    have hc24d := decide_eq_true hc24
    rw [if_pos hc24] at h
    refine Wk_seq ?_
    obtain ⟨r34, hr25, h⟩ := Option.bind_eq_some_iff.1 h
    refine Wk_regionZ fun Z hZ => ?_
    simp only [go_sem, seval, hc24d, hr25]
    refine hZ _ (pp (Wk_seq ?_))
    obtain ⟨r35, hr26, h⟩ := Option.bind_eq_some_iff.1 h
    refine Wk_regionZ fun Z hZ => ?_
    simp only [go_sem, seval, hr26]
    refine hZ _ (pp (Wk_seq ?_))
    apply Wk_join1 (fun (c40 : Bool) => ⟨tab 159 (updT (updT (updT (updT (updT (updT (updT (updT deadT 0 (.sl false none 3 none (a0.map actorgridlaw31_Act.row))) 3 (.sl false none 4 none (l5.map Lock.row))) 4 (.sl false none 4 none (l6.map Lock.row))) 5 (.val (.int .i64 ((v7 : Nat) : Int)))) 14 (.sl false none 4 none (r34.1.map Lock.row))) 16 (.val (.int .i64 r34.2.2))) 17 (.sl false none 4 none (r35.1.map Lock.row))) 130 (.val (.bool c40))), RZ⟩)
    · intro hJ27
      refine Wk_regionZ fun Z hZ => ?_
      simp only [go_sem, seval]
      refine RX_guard_ndec rfl (fun hc28 => ?_) (fun hc28 => ?_)
      · have hc28d := decide_eq_false hc28
        rw [if_neg hc28] at h
        simp only [go_sem, seval, hc28d]
        refine hZ _ (pp (hJ27 _ true ?_ h))
        refine weak_roots ?_ ?_ <;> repeat' first | exact xn | exact rn | refine xc ?_ ?_ | refine rc ?_ ?_ ?_ | rfl | simp only [go_sem, seval, Bool.or_self, List.length_set, Int.natCast_zero, Int.cast_ofNat_Int, hr1, hc2, hc3d, hx7, hi6', hw8, hr10, hc15, hc24d, hr25, hr26, hc28d]
      have hc28d := decide_eq_true hc28
      rw [if_pos hc28] at h
      simp only [go_sem, seval, hc28d]
      refine RX_guard_ndec rfl (fun hc29 => ?_) (fun hc29 => ?_)
      · have hc29d := decide_eq_false hc29
        rw [if_neg hc29] at h
        simp only [go_sem, seval, hc29d]
        refine hZ _ (pp (hJ27 _ true ?_ h))
        refine weak_roots ?_ ?_ <;> repeat' first | exact xn | exact rn | refine xc ?_ ?_ | refine rc ?_ ?_ ?_ | rfl | simp only [go_sem, seval, Bool.or_self, List.length_set, Int.natCast_zero, Int.cast_ofNat_Int, hr1, hc2, hc3d, hx7, hi6', hw8, hr10, hc15, hc24d, hr25, hr26, hc28d, hc29d]
      have hc29d := decide_eq_true hc29
      rw [if_pos hc29] at h
      obtain ⟨r41, hr30, h⟩ := Option.bind_eq_some_iff.1 h
      simp only [go_sem, seval, hc29d, hr30]
      refine hZ _ (pp (hJ27 _ (!r41) ?_ h))
      refine weak_roots ?_ ?_ <;> repeat' first | exact xn | exact rn | refine xc ?_ ?_ | refine rc ?_ ?_ ?_ | rfl | simp only [go_sem, seval, Bool.or_self, List.length_set, Int.natCast_zero, Int.cast_ofNat_Int, hr1, hc2, hc3d, hx7, hi6', hw8, hr10, hc15, hc24d, hr25, hr26, hc28d, hc29d, hr30]
    intro c40 h
    unfold law31_LocksSequences_J3 at h
    refine Wk_cond_bool rfl (fun hc31 => ?_) (fun hc31 => ?_)
    · rw [if_pos hc31] at h
      refine Wk_seq (Wk_regionZ fun Z hZ => ?_)
      simp only [go_sem, seval, hc31]
      refine hZ _ (pp (Wk_ret (pp ?_)))
      cases h
      simp only [go_sem, seval]
      exact ⟨_, rfl, RokI.h, PureI.h⟩
    rw [if_neg (ne_true_of_eq_false hc31)] at h
    refine Wk_skip (pp ?_)
    unfold law31_LocksSequences_J4 at h
    refine Wk_seq (Wk_regionZ fun Z hZ => ?_)
    simp only [go_sem, seval, hc31]
    refine hZ _ (pp (Wk_cond_dec rfl (fun hc32 => ?_) (fun hc32 => ?_)))
    · have hc32d := decide_eq_true hc32
      rw [if_pos hc32] at h
      refine Wk_regionZ fun Z hZ => ?_
      simp only [go_sem, seval, hc32d]
      refine hZ _ (pp (hJ11 _ r34.1 r35.1 ?_ h))
      refine weak_roots ?_ ?_ <;> repeat' first | exact xn | exact rn | refine xc ?_ ?_ | refine rc ?_ ?_ ?_ | rfl | simp only [go_sem, seval, Bool.or_self, List.length_set, Int.natCast_zero, Int.cast_ofNat_Int, hr1, hc2, hc3d, hx7, hi6', hw8, hr10, hc15, hc24d, hr25, hr26, hc31, hc32d]
    have hc32d := decide_eq_false hc32
    rw [if_neg hc32] at h
    refine Wk_skip (pp (hJ11 _ l5 l6 ?_ h))
    refine weak_roots ?_ ?_ <;> repeat' first | exact xn | exact rn | refine xc ?_ ?_ | refine rc ?_ ?_ ?_ | rfl | simp only [go_sem, seval, Bool.or_self, List.length_set, Int.natCast_zero, Int.cast_ofNat_Int, hr1, hc2, hc3d, hx7, hi6', hw8, hr10, hc15, hc24d, hr25, hr26, hc31, hc32d]
  intro l23 l24 h
  unfold law31_LocksSequences_J6 at h
  refine Wk_seq ?_
  obtain ⟨r47, hr40, h⟩ := Option.bind_eq_some_iff.1 h
  refine Wk_regionZ fun Z hZ => ?_
  simp only [go_sem, seval, hr40]
  refine hZ _ (pp (Wk_cond_nbool rfl (fun hc41 => ?_) (fun hc41 => ?_)))
  · rw [if_neg (ne_true_of_eq_false hc41)] at h
    refine Wk_seq (Wk_regionZ fun Z hZ => ?_)
    simp only [go_sem, seval, hc41]
    refine hZ _ (pp (Wk_ret (pp ?_)))
    cases h
    simp only [go_sem, seval]
    exact ⟨_, rfl, RokI.h, PureI.h⟩
  rw [if_pos hc41] at h
  refine Wk_skip (pp (Wk_regionZ fun Z hZ => ?_))
  simp only [go_sem, seval, hw8, hc41]
  refine hZ _ (pp ?_)
  first | refine ⟨(l23, l24), ?_, h⟩ | refine ⟨hi6', (l23, l24), ?_, h⟩
  refine weak_roots ?_ ?_ <;> repeat' first | exact xn | exact rn | refine xc ?_ ?_ | refine rc ?_ ?_ ?_ | rfl | simp only [go_sem, seval, Bool.or_self, List.length_set, Int.natCast_zero, Int.cast_ofNat_Int, hr1, hc2, hc3d, hx7, hi6', hw8, hr10, hr40, hc41]
noncomputable def fs_law31_LocksSequences (N : Nat) : FnS := ⟨[], true, fn1 (decL 3 actorgridlaw31_Act.dec) fun q0 => (law31_LocksSequences N q0).map fun r => .val (.bool r), false⟩
attribute [go_sem] fs_law31_LocksSequences
theorem fs_law31_LocksSequences_ok (N : Nat) : FSOk Try.prog 3 (fs_law31_LocksSequences N) := ok1 (fun q0 r h => by
  obtain ⟨r', hr, rfl⟩ := Option.map_eq_some_iff.1 h
  exact w_law31_LocksSequences N q0 r' hr) (fun h => decL_le actorgridlaw31_Act.dec_le h)

end Go.Proofs.Ythafflhaoplpjaa
