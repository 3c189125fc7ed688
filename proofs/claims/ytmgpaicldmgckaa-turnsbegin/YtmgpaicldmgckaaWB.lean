import Derived.Test.YtmgpaicldmgckaaB
import Derived.Test.YtmgpaicldmgckaaWA
/- Each Go function computes its model: proofs laid by a program of ours. -/
set_option synthInstance.maxHeartbeats 2000000
set_option synthInstance.maxSize 4000
set_option linter.unusedSimpArgs false
set_option linter.unusedVariables false
set_option maxRecDepth 100000
namespace Go.Proofs.Ytmgpaicldmgckaa
open Go Go.Proofs Go.Abs
noncomputable def G_turns_Nested (N d f : Nat) : Option FnS := glist [(15, 17, fs_turns_ValidRequest N), (20, 55, fs_turns_number N), (25, 54, fs_directory_ValidRef N), (30, 54, fs_directory_ValidRef N), (35, 60, fs_turns_name N), (40, 61, fs_turns_validArgs N), (57, 51, fso_turns_cloneRequest N), (74, 81, fso_turns_cloneValues N)] d f
attribute [go_sem] G_turns_Nested
set_option maxHeartbeats 40000000 in
theorem w_turns_Nested (N : Nat) (a0 : Turn) (a1 : Ref) (a2 : Ref) (a3 : ByteArray) (a4 : (List Value)) (r : Request × Int) (h : turns_Nested N a0 a1 a2 a3 a4 = some r) : Con Try.prog 43 [] false [.agg (Turn.row a0), .agg [.val (.string a1.Type_), .val (.string a1.Key)], .agg [.val (.string a2.Type_), .val (.string a2.Key)], .val (.string a3), .sl false none 5 none (a4.map Value.row)] (.tup [.agg [.val (.string r.1.Client), .val (.int .i64 r.1.Seq), .sl true none 1 none (r.1.Path.map (rowI .i64)), .val (.string r.1.Target.Type_), .val (.string r.1.Target.Key), .val (.string r.1.Method), .sl true none 5 none (r.1.Args.map Value.row), .sl true none 2 none (r.1.Chain.map Ref.row), .val (.int .i64 r.1.Txn)], .val (.int .i64 r.2)]) := by
  refine fun_ok4 (G := (G_turns_Nested N)) Try.func43 rfl (by decide) (by kernel_rfl) (gc 15 (fs_turns_ValidRequest_ok N) (gc 20 (fs_turns_number_ok N) (gc 25 (fs_directory_ValidRef_ok N) (gc 30 (fs_directory_ValidRef_ok N) (gc 35 (fs_turns_name_ok N) (gc 40 (fs_turns_validArgs_ok N) (gc 57 (fso_turns_cloneRequest_ok N) (gc 74 (fso_turns_cloneValues_ok N) gn)))))))) [] mix (Nat.le_of_ble_eq_true rfl) ?_
  simp only [Try.f43]
  unfold turns_Nested at h
  refine Wk_seq (Wk_regionZ fun Z hZ => ?_)
  simp only [go_sem, seval]
  refine hZ _ (pp ?_)
  refine Wk_seq ?_
  apply Wk_join1 (fun (c15 : Bool) => ⟨tab 79 (updT (updT (updT (updT (updT (updT (updT deadT 3 (.val (.string a3))) 4 (.sl false none 5 none (a4.map Value.row))) 5 (.pref 5 [] 0 0)) 6 (.pref 6 [] 0 0)) 7 (.pref 7 [] 0 0)) 10 (.pref 10 [] 0 0)) 42 (.val (.bool c15))), (upd (upd (upd (upd RZ 5 (.sl true none 30 (some 1) [Turn.row a0])) 6 (.sl true none 2 (some 1) [[.val (.string a1.Type_), .val (.string a1.Key)]])) 7 (.sl true none 2 (some 1) [[.val (.string a2.Type_), .val (.string a2.Key)]])) 10 (.sl true none 9 (some 1) [[.val (.string (⟨#[]⟩)), .val (.int .i64 0), .val (.slice none 0 0), .val (.string (⟨#[]⟩)), .val (.string (⟨#[]⟩)), .val (.string (⟨#[]⟩)), .val (.slice none 0 0), .val (.slice none 0 0), .val (.int .i64 0)]]))⟩)
  · intro hJ1
    obtain ⟨r16, hr2, h⟩ := Option.bind_eq_some_iff.1 h
    refine Wk_regionZ fun Z hZ => ?_
    simp only [go_sem, seval, hr2]
    refine RX_guard_nbool rfl (fun hc3 => ?_) (fun hc3 => ?_)
    · rw [if_neg (ne_true_of_eq_false hc3)] at h
      simp only [go_sem, seval, hr2, hc3]
      refine hZ _ (pp ?_)
      refine hJ1 _ true ?_ h
      refine weak_roots ?_ ?_ <;> repeat' first | exact xn | exact rn | refine xc ?_ ?_ | refine rc ?_ ?_ ?_ | rfl | simp only [go_sem, seval, Bool.or_self, List.length_set, Int.natCast_zero, Int.cast_ofNat_Int, hr2, hc3]
    rw [if_pos hc3] at h
    obtain ⟨r17, hr4, h⟩ := Option.bind_eq_some_iff.1 h
    simp only [go_sem, seval, hr2, hc3, hr4]
    refine RX_guard_nbool rfl (fun hc5 => ?_) (fun hc5 => ?_)
    · rw [if_neg (ne_true_of_eq_false hc5)] at h
      simp only [go_sem, seval, hr2, hc3, hr4, hc5]
      refine hZ _ (pp ?_)
      refine hJ1 _ true ?_ h
      refine weak_roots ?_ ?_ <;> repeat' first | exact xn | exact rn | refine xc ?_ ?_ | refine rc ?_ ?_ ?_ | rfl | simp only [go_sem, seval, Bool.or_self, List.length_set, Int.natCast_zero, Int.cast_ofNat_Int, hr2, hc3, hr4, hc5]
    rw [if_pos hc5] at h
    obtain ⟨r18, hr6, h⟩ := Option.bind_eq_some_iff.1 h
    simp only [go_sem, seval, hr2, hc3, hr4, hc5, hr6]
    refine RX_guard_nbool rfl (fun hc7 => ?_) (fun hc7 => ?_)
    · rw [if_neg (ne_true_of_eq_false hc7)] at h
      simp only [go_sem, seval, hr2, hc3, hr4, hc5, hr6, hc7]
      refine hZ _ (pp ?_)
      refine hJ1 _ true ?_ h
      refine weak_roots ?_ ?_ <;> repeat' first | exact xn | exact rn | refine xc ?_ ?_ | refine rc ?_ ?_ ?_ | rfl | simp only [go_sem, seval, Bool.or_self, List.length_set, Int.natCast_zero, Int.cast_ofNat_Int, hr2, hc3, hr4, hc5, hr6, hc7]
    rw [if_pos hc7] at h
    obtain ⟨r19, hr8, h⟩ := Option.bind_eq_some_iff.1 h
    simp only [go_sem, seval, hr2, hc3, hr4, hc5, hr6, hc7, hr8]
    refine RX_guard_nbool rfl (fun hc9 => ?_) (fun hc9 => ?_)
    · rw [if_neg (ne_true_of_eq_false hc9)] at h
      simp only [go_sem, seval, hr2, hc3, hr4, hc5, hr6, hc7, hr8, hc9]
      refine hZ _ (pp ?_)
      refine hJ1 _ true ?_ h
      refine weak_roots ?_ ?_ <;> repeat' first | exact xn | exact rn | refine xc ?_ ?_ | refine rc ?_ ?_ ?_ | rfl | simp only [go_sem, seval, Bool.or_self, List.length_set, Int.natCast_zero, Int.cast_ofNat_Int, hr2, hc3, hr4, hc5, hr6, hc7, hr8, hc9]
    rw [if_pos hc9] at h
    obtain ⟨r20, hr10, h⟩ := Option.bind_eq_some_iff.1 h
    simp only [go_sem, seval, hr2, hc3, hr4, hc5, hr6, hc7, hr8, hc9, hr10]
    refine RX_guard_nbool rfl (fun hc11 => ?_) (fun hc11 => ?_)
    · rw [if_neg (ne_true_of_eq_false hc11)] at h
      simp only [go_sem, seval, hr2, hc3, hr4, hc5, hr6, hc7, hr8, hc9, hr10, hc11]
      refine hZ _ (pp ?_)
      refine hJ1 _ true ?_ h
      refine weak_roots ?_ ?_ <;> repeat' first | exact xn | exact rn | refine xc ?_ ?_ | refine rc ?_ ?_ ?_ | rfl | simp only [go_sem, seval, Bool.or_self, List.length_set, Int.natCast_zero, Int.cast_ofNat_Int, hr2, hc3, hr4, hc5, hr6, hc7, hr8, hc9, hr10, hc11]
    rw [if_pos hc11] at h
    obtain ⟨r21, hr12, h⟩ := Option.bind_eq_some_iff.1 h
    simp only [go_sem, seval, hr2, hc3, hr4, hc5, hr6, hc7, hr8, hc9, hr10, hc11, hr12]
    refine hZ _ (pp ?_)
    refine hJ1 _ (!r21) ?_ h
    refine weak_roots ?_ ?_ <;> repeat' first | exact xn | exact rn | refine xc ?_ ?_ | refine rc ?_ ?_ ?_ | rfl | simp only [go_sem, seval, Bool.or_self, List.length_set, Int.natCast_zero, Int.cast_ofNat_Int, hr2, hc3, hr4, hc5, hr6, hc7, hr8, hc9, hr10, hc11, hr12]
  intro c15 h
  unfold turns_Nested_J1 at h
  refine Wk_cond_bool rfl (fun hc13 => ?_) (fun hc13 => ?_)
  · rw [if_pos hc13] at h
    refine Wk_seq (Wk_regionZ fun Z hZ => ?_)
    simp only [go_sem, seval, hc13]
    refine hZ _ (pp ?_)
    refine Wk_ret (pp ?_)
    cases h
    simp only [go_sem, seval, hc13]
    exact ⟨_, rfl, RokI.h⟩
  rw [if_neg (ne_true_of_eq_false hc13)] at h
  refine Wk_skip (pp ?_)
  unfold turns_Nested_J4 at h
  refine Wk_seq ?_
  apply Wk_join1 (fun (c24 : Bool) => ⟨tab 79 (updT (updT (updT (updT (updT (updT (updT deadT 3 (.val (.string a3))) 4 (.sl false none 5 none (a4.map Value.row))) 5 (.pref 5 [] 0 0)) 6 (.pref 6 [] 0 0)) 7 (.pref 7 [] 0 0)) 10 (.pref 10 [] 0 0)) 53 (.val (.bool c24))), (upd (upd (upd (upd RZ 5 (.sl true none 30 (some 1) [Turn.row a0])) 6 (.sl true none 2 (some 1) [[.val (.string a1.Type_), .val (.string a1.Key)]])) 7 (.sl true none 2 (some 1) [[.val (.string a2.Type_), .val (.string a2.Key)]])) 10 (.sl true none 9 (some 1) [[.val (.string (⟨#[]⟩)), .val (.int .i64 0), .val (.slice none 0 0), .val (.string (⟨#[]⟩)), .val (.string (⟨#[]⟩)), .val (.string (⟨#[]⟩)), .val (.slice none 0 0), .val (.slice none 0 0), .val (.int .i64 0)]]))⟩)
  · intro hJ14
    refine Wk_regionZ fun Z hZ => ?_
    simp only [go_sem, seval, hc13]
    refine RX_guard_dec rfl (fun hc15 => ?_) (fun hc15 => ?_)
    · have hc15d := decide_eq_true hc15
      first | rw [if_pos hc15] at h | rw [if_pos hc15d] at h
      simp only [go_sem, seval, hc13, hc15d]
      refine hZ _ (pp ?_)
      refine hJ14 _ true ?_ h
      refine weak_roots ?_ ?_ <;> repeat' first | exact xn | exact rn | refine xc ?_ ?_ | refine rc ?_ ?_ ?_ | rfl | simp only [go_sem, seval, Bool.or_self, List.length_set, Int.natCast_zero, Int.cast_ofNat_Int, hc13, hc15d]
    have hc15d := decide_eq_false hc15
    first | rw [if_neg hc15] at h | rw [if_neg (ne_true_of_eq_false hc15d)] at h
    simp only [go_sem, seval, hc13, hc15d]
    refine hZ _ (pp ?_)
    refine hJ14 _ (decide (a0.Calls = 1099511627776)) ?_ h
    refine weak_roots ?_ ?_ <;> repeat' first | exact xn | exact rn | refine xc ?_ ?_ | refine rc ?_ ?_ ?_ | rfl | simp only [go_sem, seval, Bool.or_self, List.length_set, Int.natCast_zero, Int.cast_ofNat_Int, hc13, hc15d]
  intro c24 h
  unfold turns_Nested_J2 at h
  refine Wk_cond_bool rfl (fun hc16 => ?_) (fun hc16 => ?_)
  · rw [if_pos hc16] at h
    refine Wk_seq (Wk_regionZ fun Z hZ => ?_)
    simp only [go_sem, seval, hc13, hc16]
    refine hZ _ (pp ?_)
    refine Wk_ret (pp ?_)
    cases h
    simp only [go_sem, seval, hc13, hc16]
    exact ⟨_, rfl, RokI.h⟩
  rw [if_neg (ne_true_of_eq_false hc16)] at h
  refine Wk_skip (pp ?_)
  unfold turns_Nested_J3 at h
  refine Wk_seq ?_
  obtain ⟨r25, hr17, h⟩ := Option.bind_eq_some_iff.1 h
  refine Wk_regionZ fun Z hZ => ?_
  simp only [go_sem, seval, hc13, hc16, hr17]
  refine hZ _ (pp ?_)
  refine Wk_seq ?_
  obtain ⟨ha18, h⟩ := apx_some h
  simp only [List.length_append, List.length_cons, List.length_nil, Nat.zero_add, Nat.add_zero, Nat.reduceAdd] at ha18
  obtain ⟨ha19, h⟩ := apx_some h
  simp only [List.length_append, List.length_cons, List.length_nil, Nat.zero_add, Nat.add_zero, Nat.reduceAdd] at ha19
  refine Wk_regionH fun Y hY => ?_
  refine RX2_s rfl rfl fun Z hZ => ?_
  simp only [go_sem, seval, hc13, hc16, hr17, ha18, ha19]
  repeat with_reducible refine and_bar (by kernel_rfl) ?_
  refine hZ _ ?_
  refine RX2_s rfl rfl fun Z hZ => ?_
  simp only [go_sem, seval, hc13, hc16, hr17, ha18, ha19]
  repeat with_reducible refine and_bar (by kernel_rfl) ?_
  refine hZ _ ?_
  refine RX2_s rfl rfl fun Z hZ => ?_
  simp only [go_sem, seval, hc13, hc16, hr17, ha18, ha19]
  repeat with_reducible refine and_bar (by kernel_rfl) ?_
  refine hZ _ ?_
  refine RX2_s rfl rfl fun Z hZ => ?_
  simp only [go_sem, seval, hc13, hc16, hr17, ha18, ha19]
  repeat with_reducible refine and_bar (by kernel_rfl) ?_
  refine hZ _ ?_
  refine RX2_s rfl rfl fun Z hZ => ?_
  simp only [go_sem, seval, hc13, hc16, hr17, ha18, ha19]
  repeat with_reducible refine and_bar (by kernel_rfl) ?_
  refine hZ _ ?_
  refine RX2_a fun Z hZ => ?_
  simp only [go_sem, seval, hc13, hc16, hr17, ha18, ha19]
  repeat with_reducible refine and_bar (by kernel_rfl) ?_
  refine hZ _ ?_
  refine RX2_s rfl rfl fun Z hZ => ?_
  simp only [go_sem, seval, hc13, hc16, hr17, ha18, ha19]
  repeat with_reducible refine and_bar (by kernel_rfl) ?_
  refine hZ _ ?_
  refine RX2_s rfl rfl fun Z hZ => ?_
  simp only [go_sem, seval, hc13, hc16, hr17, ha18, ha19]
  repeat with_reducible refine and_bar (by kernel_rfl) ?_
  refine hZ _ ?_
  refine RX2_s rfl rfl fun Z hZ => ?_
  simp only [go_sem, seval, hc13, hc16, hr17, ha18, ha19]
  repeat with_reducible refine and_bar (by kernel_rfl) ?_
  refine hZ _ ?_
  refine RX2_s rfl rfl fun Z hZ => ?_
  simp only [go_sem, seval, hc13, hc16, hr17, ha18, ha19]
  repeat with_reducible refine and_bar (by kernel_rfl) ?_
  refine hZ _ ?_
  refine RX2_a fun Z hZ => ?_
  simp only [go_sem, seval, hc13, hc16, hr17, ha18, ha19]
  repeat with_reducible refine and_bar (by kernel_rfl) ?_
  refine hZ _ ?_
  refine RX2_s rfl rfl fun Z hZ => ?_
  simp only [go_sem, seval, hc13, hc16, hr17, ha18, ha19]
  repeat with_reducible refine and_bar (by kernel_rfl) ?_
  refine hZ _ ?_
  refine RX2_w fun Z hZ => ?_
  simp only [go_sem, seval, hc13, hc16, hr17, ha18, ha19]
  repeat with_reducible refine and_bar (by kernel_rfl) ?_
  refine hZ _ ?_
  refine RX2_s rfl rfl fun Z hZ => ?_
  simp only [go_sem, seval, hc13, hc16, hr17, ha18, ha19]
  repeat with_reducible refine and_bar (by kernel_rfl) ?_
  refine hZ _ ?_
  refine RX2_w fun Z hZ => ?_
  simp only [go_sem, seval, hc13, hc16, hr17, ha18, ha19]
  repeat with_reducible refine and_bar (by kernel_rfl) ?_
  refine hZ _ ?_
  refine RX2_end (by kernel_rfl) (hY _ (pp ?_))
  refine Wk_seq ?_
  obtain ⟨r26, hr20, h⟩ := Option.bind_eq_some_iff.1 h
  refine Wk_regionD fun Z hZ => ?_
  simp only [go_sem, seval, hc13, hc16, hr17, ha18, ha19, hr20]
  repeat with_reducible refine and_bar (by kernel_rfl) ?_
  refine hZ _ (by kernel_rfl) (pp ?_)
  refine Wk_seq (Wk_regionZ fun Z hZ => ?_)
  simp only [go_sem, seval, hc13, hc16, hr17, ha18, ha19, hr20]
  refine hZ _ (pp ?_)
  refine Wk_ret (pp ?_)
  cases h
  simp only [go_sem, seval, hc13, hc16, hr17, ha18, ha19, hr20]
  exact ⟨_, rfl, RokI.h⟩
def fs_turns_Nested (N : Nat) : FnS := { own := [], pure := false, fn := fun cs => match cs with
  | [c0, c1, c2, c3, c4] => (Turn.decA c0).bind fun qc0 => (Ref.decA c1).bind fun qc1 => (Ref.decA c2).bind fun qc2 => (decS c3).bind fun qc3 => ((decL 5 Value.dec) c4).bind fun qc4 => (turns_Nested N qc0 qc1 qc2 qc3 qc4).map fun r => .tup [.agg (Request.row r.1), .val (.int .i64 r.2)]
  | _ => none }
attribute [go_sem] fs_turns_Nested
theorem fs_turns_Nested_ok (N : Nat) : FSOk Try.prog 43 (fs_turns_Nested N) := by
  refine ⟨fun cs r h => ?_, fun h => by cases h⟩
  simp only [fs_turns_Nested] at h
  split at h
  · simp only [Option.bind_eq_some_iff, Option.map_eq_some_iff] at h
    obtain ⟨q0, h0, q1, h1, q2, h2, q3, h3, q4, h4, r', hr, rfl⟩ := h
    exact (((w_turns_Nested N q0 q1 q2 q3 q4 r' hr).args (LeL.cons (Turn.decA_le h0) (LeL.cons (Ref.decA_le h1) (LeL.cons (Ref.decA_le h2) (LeL.cons (decS_le h3) (LeL.cons (decL_le Value.dec_le h4) (LeL.nil))))))).res (by (try simp only [go_sem]); exact RokI.h))
  · cases h

def fso_turns_Nested (N : Nat) : FnS := { own := [], pure := false, fn := fun cs => match cs with
  | [c0, c1, c2, c3, c4] => (Turn.decA c0).bind fun qc0 => (Ref.decA c1).bind fun qc1 => (Ref.decA c2).bind fun qc2 => (decS c3).bind fun qc3 => ((decL 5 Value.dec) c4).bind fun qc4 => (turns_Nested N qc0 qc1 qc2 qc3 qc4).map fun r => .tup [.agg [.val (.string r.1.Client), .val (.int .i64 r.1.Seq), .sl true none 1 none (r.1.Path.map (rowI .i64)), .val (.string r.1.Target.Type_), .val (.string r.1.Target.Key), .val (.string r.1.Method), .sl true none 5 none (r.1.Args.map Value.row), .sl true none 2 none (r.1.Chain.map Ref.row), .val (.int .i64 r.1.Txn)], .val (.int .i64 r.2)]
  | _ => none }
attribute [go_sem] fso_turns_Nested
theorem fso_turns_Nested_ok (N : Nat) : FSOk Try.prog 43 (fso_turns_Nested N) := by
  refine ⟨fun cs r h => ?_, fun h => by cases h⟩
  simp only [fso_turns_Nested] at h
  split at h
  · simp only [Option.bind_eq_some_iff, Option.map_eq_some_iff] at h
    obtain ⟨q0, h0, q1, h1, q2, h2, q3, h3, q4, h4, r', hr, rfl⟩ := h
    exact ((w_turns_Nested N q0 q1 q2 q3 q4 r' hr).args (LeL.cons (Turn.decA_le h0) (LeL.cons (Ref.decA_le h1) (LeL.cons (Ref.decA_le h2) (LeL.cons (decS_le h3) (LeL.cons (decL_le Value.dec_le h4) (LeL.nil)))))))
  · cases h


noncomputable def G_turns_replaced (N d f : Nat) : Option FnS := glist [(13, 73, fs_turns_changed N)] d f
attribute [go_sem] G_turns_replaced
set_option maxHeartbeats 40000000 in
theorem w_turns_replaced (N : Nat) (a0 : Actor) (a1 : Turn) (r : Actor × Int) (h : turns_replaced N a0 a1 = some r) : Con Try.prog 78 [] false [.agg (Actor.row a0), .agg (Turn.row a1)] (.tup [.agg (Actor.row r.1), .val (.int .i64 r.2)]) := by
  refine fun_ok4 (G := (G_turns_replaced N)) Try.func78 rfl (by decide) (by kernel_rfl) (gc 13 (fs_turns_changed_ok N) gn) [] mix (Nat.le_of_ble_eq_true rfl) ?_
  simp only [Try.f78]
  unfold turns_replaced at h
  refine Wk_seq (Wk_regionZ fun Z hZ => ?_)
  simp only [go_sem, seval]
  refine hZ _ (pp ?_)
  refine Wk_seq ?_
  obtain ⟨r1, hr1, h⟩ := Option.bind_eq_some_iff.1 h
  refine Wk_regionZ fun Z hZ => ?_
  simp only [go_sem, seval, hr1]
  refine hZ _ (pp ?_)
  refine Wk_ret (pp ?_)
  cases h
  simp only [go_sem, seval, hr1]
  exact ⟨_, rfl, RokI.h⟩
def fs_turns_replaced (N : Nat) : FnS := { own := [], pure := false, fn := fun cs => match cs with
  | [c0, c1] => (Actor.decA c0).bind fun qc0 => (Turn.decA c1).bind fun qc1 => (turns_replaced N qc0 qc1).map fun r => .tup [.agg (Actor.row r.1), .val (.int .i64 r.2)]
  | _ => none }
attribute [go_sem] fs_turns_replaced
theorem fs_turns_replaced_ok (N : Nat) : FSOk Try.prog 78 (fs_turns_replaced N) := by
  refine ⟨fun cs r h => ?_, fun h => by cases h⟩
  simp only [fs_turns_replaced] at h
  split at h
  · simp only [Option.bind_eq_some_iff, Option.map_eq_some_iff] at h
    obtain ⟨q0, h0, q1, h1, r', hr, rfl⟩ := h
    exact ((w_turns_replaced N q0 q1 r' hr).args (LeL.cons (Actor.decA_le h0) (LeL.cons (Turn.decA_le h1) (LeL.nil))))
  · cases h


noncomputable def G_turns_Suspend (N d f : Nat) : Option FnS := glist [(15, 15, fs_turns_Valid N), (19, 54, fs_directory_ValidRef N), (24, 60, fs_turns_name N), (29, 61, fs_turns_validArgs N), (35, 74, fs_turns_top N), (42, 75, fs_turns_running N), (53, 43, fs_turns_Nested N), (68, 78, fs_turns_replaced N)] d f
attribute [go_sem] G_turns_Suspend
set_option maxHeartbeats 40000000 in
theorem w_turns_Suspend (N : Nat) (a0 : Actor) (a1 : Ref) (a2 : ByteArray) (a3 : (List Value)) (r : Actor × Int) (h : turns_Suspend N a0 a1 a2 a3 = some r) : Con Try.prog 35 [] false [.agg (Actor.row a0), .agg [.val (.string a1.Type_), .val (.string a1.Key)], .val (.string a2), .sl false none 5 none (a3.map Value.row)] (.tup [.agg (Actor.row r.1), .val (.int .i64 r.2)]) := by
  refine fun_ok4 (G := (G_turns_Suspend N)) Try.func35 rfl (by decide) (by kernel_rfl) (gc 15 (fs_turns_Valid_ok N) (gc 19 (fs_directory_ValidRef_ok N) (gc 24 (fs_turns_name_ok N) (gc 29 (fs_turns_validArgs_ok N) (gc 35 (fs_turns_top_ok N) (gc 42 (fs_turns_running_ok N) (gc 53 (fs_turns_Nested_ok N) (gc 68 (fs_turns_replaced_ok N) gn)))))))) [] mix (Nat.le_of_ble_eq_true rfl) ?_
  simp only [Try.f35]
  unfold turns_Suspend at h
  refine Wk_seq (Wk_regionZ fun Z hZ => ?_)
  simp only [go_sem, seval]
  refine hZ _ (pp ?_)
  refine Wk_seq ?_
  apply Wk_join1 (fun (c11 : Bool) => ⟨tab 71 (updT (updT (updT (updT (updT (updT deadT 2 (.val (.string a2))) 3 (.sl false none 5 none (a3.map Value.row))) 4 (.pref 4 [] 0 0)) 5 (.pref 5 [] 0 0)) 8 (.pref 8 [] 0 0)) 31 (.val (.bool c11))), (upd (upd (upd RZ 4 (.sl true none 4 (some 1) [Actor.row a0])) 5 (.sl true none 2 (some 1) [[.val (.string a1.Type_), .val (.string a1.Key)]])) 8 (.sl true none 4 (some 1) [[.val (.string (⟨#[]⟩)), .val (.string (⟨#[]⟩)), .val (.int .i64 0), .val (.slice none 0 0)]]))⟩)
  · intro hJ1
    obtain ⟨r12, hr2, h⟩ := Option.bind_eq_some_iff.1 h
    refine Wk_regionZ fun Z hZ => ?_
    simp only [go_sem, seval, hr2]
    refine RX_guard_nbool rfl (fun hc3 => ?_) (fun hc3 => ?_)
    · rw [if_neg (ne_true_of_eq_false hc3)] at h
      simp only [go_sem, seval, hr2, hc3]
      refine hZ _ (pp ?_)
      refine hJ1 _ true ?_ h
      refine weak_roots ?_ ?_ <;> repeat' first | exact xn | exact rn | refine xc ?_ ?_ | refine rc ?_ ?_ ?_ | rfl | simp only [go_sem, seval, Bool.or_self, List.length_set, Int.natCast_zero, Int.cast_ofNat_Int, hr2, hc3]
    rw [if_pos hc3] at h
    obtain ⟨r13, hr4, h⟩ := Option.bind_eq_some_iff.1 h
    simp only [go_sem, seval, hr2, hc3, hr4]
    refine RX_guard_nbool rfl (fun hc5 => ?_) (fun hc5 => ?_)
    · rw [if_neg (ne_true_of_eq_false hc5)] at h
      simp only [go_sem, seval, hr2, hc3, hr4, hc5]
      refine hZ _ (pp ?_)
      refine hJ1 _ true ?_ h
      refine weak_roots ?_ ?_ <;> repeat' first | exact xn | exact rn | refine xc ?_ ?_ | refine rc ?_ ?_ ?_ | rfl | simp only [go_sem, seval, Bool.or_self, List.length_set, Int.natCast_zero, Int.cast_ofNat_Int, hr2, hc3, hr4, hc5]
    rw [if_pos hc5] at h
    obtain ⟨r14, hr6, h⟩ := Option.bind_eq_some_iff.1 h
    simp only [go_sem, seval, hr2, hc3, hr4, hc5, hr6]
    refine RX_guard_nbool rfl (fun hc7 => ?_) (fun hc7 => ?_)
    · rw [if_neg (ne_true_of_eq_false hc7)] at h
      simp only [go_sem, seval, hr2, hc3, hr4, hc5, hr6, hc7]
      refine hZ _ (pp ?_)
      refine hJ1 _ true ?_ h
      refine weak_roots ?_ ?_ <;> repeat' first | exact xn | exact rn | refine xc ?_ ?_ | refine rc ?_ ?_ ?_ | rfl | simp only [go_sem, seval, Bool.or_self, List.length_set, Int.natCast_zero, Int.cast_ofNat_Int, hr2, hc3, hr4, hc5, hr6, hc7]
    rw [if_pos hc7] at h
    obtain ⟨r15, hr8, h⟩ := Option.bind_eq_some_iff.1 h
    simp only [go_sem, seval, hr2, hc3, hr4, hc5, hr6, hc7, hr8]
    refine hZ _ (pp ?_)
    refine hJ1 _ (!r15) ?_ h
    refine weak_roots ?_ ?_ <;> repeat' first | exact xn | exact rn | refine xc ?_ ?_ | refine rc ?_ ?_ ?_ | rfl | simp only [go_sem, seval, Bool.or_self, List.length_set, Int.natCast_zero, Int.cast_ofNat_Int, hr2, hc3, hr4, hc5, hr6, hc7, hr8]
  intro c11 h
  unfold turns_Suspend_J1 at h
  refine Wk_cond_bool rfl (fun hc9 => ?_) (fun hc9 => ?_)
  · rw [if_pos hc9] at h
    refine Wk_seq (Wk_regionZ fun Z hZ => ?_)
    simp only [go_sem, seval, hc9]
    refine hZ _ (pp ?_)
    refine Wk_ret (pp ?_)
    cases h
    simp only [go_sem, seval, hc9]
    exact ⟨_, rfl, RokI.h⟩
  rw [if_neg (ne_true_of_eq_false hc9)] at h
  refine Wk_skip (pp ?_)
  unfold turns_Suspend_J4 at h
  refine Wk_seq ?_
  obtain ⟨r16, hr10, h⟩ := Option.bind_eq_some_iff.1 h
  refine Wk_regionZ fun Z hZ => ?_
  simp only [go_sem, seval, hc9, hr10]
  refine hZ _ (pp ?_)
  refine Wk_seq ?_
  apply Wk_join1 (fun (c21 : Bool) => ⟨tab 71 (updT (updT (updT (updT (updT (updT (updT deadT 2 (.val (.string a2))) 3 (.sl false none 5 none (a3.map Value.row))) 4 (.pref 4 [] 0 0)) 5 (.pref 5 [] 0 0)) 8 (.pref 8 [] 0 0)) 10 (.pref 10 [] 0 0)) 44 (.val (.bool c21))), (upd (upd (upd (upd RZ 4 (.sl true none 4 (some 1) [Actor.row a0])) 5 (.sl true none 2 (some 1) [[.val (.string a1.Type_), .val (.string a1.Key)]])) 8 (.sl true none 4 (some 1) [[.val (.string (⟨#[]⟩)), .val (.string (⟨#[]⟩)), .val (.int .i64 0), .val (.slice none 0 0)]])) 10 (.sl true none 30 (some 1) [Turn.row r16.1]))⟩)
  · intro hJ11
    refine Wk_regionZ fun Z hZ => ?_
    simp only [go_sem, seval, hc9, hr10]
    refine RX_guard_nbool rfl (fun hc12 => ?_) (fun hc12 => ?_)
    · rw [if_neg (ne_true_of_eq_false hc12)] at h
      simp only [go_sem, seval, hc9, hr10, hc12]
      refine hZ _ (pp ?_)
      refine hJ11 _ true ?_ h
      refine weak_roots ?_ ?_ <;> repeat' first | exact xn | exact rn | refine xc ?_ ?_ | refine rc ?_ ?_ ?_ | rfl | simp only [go_sem, seval, Bool.or_self, List.length_set, Int.natCast_zero, Int.cast_ofNat_Int, hc9, hr10, hc12]
    rw [if_pos hc12] at h
    obtain ⟨r22, hr13, h⟩ := Option.bind_eq_some_iff.1 h
    simp only [go_sem, seval, hc9, hr10, hc12, hr13]
    refine hZ _ (pp ?_)
    refine hJ11 _ (!r22) ?_ h
    refine weak_roots ?_ ?_ <;> repeat' first | exact xn | exact rn | refine xc ?_ ?_ | refine rc ?_ ?_ ?_ | rfl | simp only [go_sem, seval, Bool.or_self, List.length_set, Int.natCast_zero, Int.cast_ofNat_Int, hc9, hr10, hc12, hr13]
  intro c21 h
  unfold turns_Suspend_J2 at h
  refine Wk_cond_bool rfl (fun hc14 => ?_) (fun hc14 => ?_)
  · rw [if_pos hc14] at h
    refine Wk_seq (Wk_regionZ fun Z hZ => ?_)
    simp only [go_sem, seval, hc9, hr10, hc14]
    refine hZ _ (pp ?_)
    refine Wk_ret (pp ?_)
    cases h
    simp only [go_sem, seval, hc9, hr10, hc14]
    exact ⟨_, rfl, RokI.h⟩
  rw [if_neg (ne_true_of_eq_false hc14)] at h
  refine Wk_skip (pp ?_)
  unfold turns_Suspend_J3 at h
  refine Wk_seq ?_
  obtain ⟨r23, hr15, h⟩ := Option.bind_eq_some_iff.1 h
  refine Wk_regionZ fun Z hZ => ?_
  simp only [go_sem, seval, hc9, hr10, hc14, hr15]
  refine hZ _ (pp ?_)
  refine Wk_seq (Wk_seq (Wk_regionZ fun Z hZ => ?_))
  simp only [go_sem, seval, hc9, hr10, hc14, hr15]
  refine hZ _ (pp ?_)
  refine Wk_cond_ndec rfl (fun hc16 => ?_) (fun hc16 => ?_)
  · have hc16d := decide_eq_false hc16
    first | rw [if_neg hc16] at h | rw [if_neg (ne_true_of_eq_false hc16d)] at h
    refine Wk_seq (Wk_regionZ fun Z hZ => ?_)
    simp only [go_sem, seval, hc9, hr10, hc14, hr15, hc16d]
    refine hZ _ (pp ?_)
    refine Wk_ret (pp ?_)
    cases h
    simp only [go_sem, seval, hc9, hr10, hc14, hr15, hc16d]
    exact ⟨_, rfl, RokI.h⟩
  have hc16d := decide_eq_true hc16
  first | rw [if_pos hc16] at h | rw [if_pos hc16d] at h
  refine Wk_skip (pp ?_)
  refine Wk_seq (Wk_regionZ fun Z hZ => ?_)
  simp only [go_sem, seval, hc9, hr10, hc14, hr15, hc16d]
  refine hZ _ (pp ?_)
  refine Wk_seq ?_
  obtain ⟨r24, hr17, h⟩ := Option.bind_eq_some_iff.1 h
  refine Wk_regionZ fun Z hZ => ?_
  simp only [go_sem, seval, hc9, hr10, hc14, hr15, hc16d, hr17]
  refine hZ _ (pp ?_)
  refine Wk_ret (pp ?_)
  cases h
  simp only [go_sem, seval, hc9, hr10, hc14, hr15, hc16d, hr17]
  exact ⟨_, rfl, RokI.h⟩
def fs_turns_Suspend (N : Nat) : FnS := { own := [], pure := false, fn := fun cs => match cs with
  | [c0, c1, c2, c3] => (Actor.decA c0).bind fun qc0 => (Ref.decA c1).bind fun qc1 => (decS c2).bind fun qc2 => ((decL 5 Value.dec) c3).bind fun qc3 => (turns_Suspend N qc0 qc1 qc2 qc3).map fun r => .tup [.agg (Actor.row r.1), .val (.int .i64 r.2)]
  | _ => none }
attribute [go_sem] fs_turns_Suspend
theorem fs_turns_Suspend_ok (N : Nat) : FSOk Try.prog 35 (fs_turns_Suspend N) := by
  refine ⟨fun cs r h => ?_, fun h => by cases h⟩
  simp only [fs_turns_Suspend] at h
  split at h
  · simp only [Option.bind_eq_some_iff, Option.map_eq_some_iff] at h
    obtain ⟨q0, h0, q1, h1, q2, h2, q3, h3, r', hr, rfl⟩ := h
    exact ((w_turns_Suspend N q0 q1 q2 q3 r' hr).args (LeL.cons (Actor.decA_le h0) (LeL.cons (Ref.decA_le h1) (LeL.cons (decS_le h2) (LeL.cons (decL_le Value.dec_le h3) (LeL.nil))))))
  · cases h


noncomputable def G_turns_suspended (N d f : Nat) : Option FnS := glist [(8, 74, fs_turns_top N), (15, 75, fs_turns_running N)] d f
attribute [go_sem] G_turns_suspended
set_option maxHeartbeats 40000000 in
theorem w_turns_suspended (N : Nat) (a0 : Actor) (r : Turn × Bool) (h : turns_suspended N a0 = some r) : Con Try.prog 50 [] false [.agg (Actor.row a0)] (.tup [.agg (Turn.row r.1), .val (.bool r.2)]) := by
  refine fun_ok4 (G := (G_turns_suspended N)) Try.func50 rfl (by decide) (by kernel_rfl) (gc 8 (fs_turns_top_ok N) (gc 15 (fs_turns_running_ok N) gn)) [] mix (Nat.le_of_ble_eq_true rfl) ?_
  simp only [Try.f50]
  unfold turns_suspended at h
  refine Wk_seq (Wk_regionZ fun Z hZ => ?_)
  simp only [go_sem, seval]
  refine hZ _ (pp ?_)
  refine Wk_seq ?_
  obtain ⟨r1, hr1, h⟩ := Option.bind_eq_some_iff.1 h
  refine Wk_regionZ fun Z hZ => ?_
  simp only [go_sem, seval, hr1]
  refine hZ _ (pp ?_)
  refine Wk_seq (Wk_regionH fun Y hY => ?_)
  refine RX2_s rfl rfl fun Z hZ => ?_
  simp only [go_sem, seval, hr1]
  repeat with_reducible refine and_bar (by kernel_rfl) ?_
  refine hZ _ ?_
  refine RX2_s rfl rfl fun Z hZ => ?_
  simp only [go_sem, seval, hr1]
  repeat with_reducible refine and_bar (by kernel_rfl) ?_
  refine hZ _ ?_
  refine RX2_s rfl rfl fun Z hZ => ?_
  simp only [go_sem, seval, hr1]
  repeat with_reducible refine and_bar (by kernel_rfl) ?_
  refine hZ _ ?_
  refine RX2_guard_bool rfl (fun hc2 => ?_) (fun hc2 => ?_)
  · rw [if_pos hc2] at h
    refine RX2_norm fun Z hZ => ?_
    simp only [hc2, Bool.not_true, Bool.not_false]
    refine hZ _ ?_
    obtain ⟨r2, hr3, h⟩ := Option.bind_eq_some_iff.1 h
    refine RX2_g rfl fun Z hZ => ?_
    simp only [go_sem, seval, hr1, hc2, hr3]
    repeat with_reducible refine and_bar (by kernel_rfl) ?_
    refine hZ _ ?_
    refine RX2_g rfl fun Z hZ => ?_
    simp only [go_sem, seval, hr1, hc2, hr3]
    repeat with_reducible refine and_bar (by kernel_rfl) ?_
    refine hZ _ ?_
    refine RX2_g rfl fun Z hZ => ?_
    simp only [go_sem, seval, hr1, hc2, hr3]
    repeat with_reducible refine and_bar (by kernel_rfl) ?_
    refine hZ _ ?_
    refine RX2_s rfl rfl fun Z hZ => ?_
    simp only [go_sem, seval, hr1, hc2, hr3]
    repeat with_reducible refine and_bar (by kernel_rfl) ?_
    refine hZ _ ?_
    refine RX2_w fun Z hZ => ?_
    simp only [go_sem, seval, hr1, hc2, hr3]
    repeat with_reducible refine and_bar (by kernel_rfl) ?_
    refine hZ _ ?_
    refine RX2_s rfl rfl fun Z hZ => ?_
    simp only [go_sem, seval, hr1, hc2, hr3]
    repeat with_reducible refine and_bar (by kernel_rfl) ?_
    refine hZ _ ?_
    refine RX2_end (by kernel_rfl) (hY _ (pp ?_))
    refine Wk_ret (pp ?_)
    cases h
    simp only [go_sem, seval, hr1, hc2, hr3]
    exact ⟨_, rfl, RokI.h⟩
  rw [if_neg (ne_true_of_eq_false hc2)] at h
  refine RX2_norm fun Z hZ => ?_
  simp only [hc2, Bool.not_true, Bool.not_false]
  refine hZ _ ?_
  refine RX2_g rfl fun Z hZ => ?_
  simp only [go_sem, seval, hr1, hc2]
  repeat with_reducible refine and_bar (by kernel_rfl) ?_
  refine hZ _ ?_
  refine RX2_g rfl fun Z hZ => ?_
  simp only [go_sem, seval, hr1, hc2]
  repeat with_reducible refine and_bar (by kernel_rfl) ?_
  refine hZ _ ?_
  refine RX2_g rfl fun Z hZ => ?_
  simp only [go_sem, seval, hr1, hc2]
  repeat with_reducible refine and_bar (by kernel_rfl) ?_
  refine hZ _ ?_
  refine RX2_s rfl rfl fun Z hZ => ?_
  simp only [go_sem, seval, hr1, hc2]
  repeat with_reducible refine and_bar (by kernel_rfl) ?_
  refine hZ _ ?_
  refine RX2_w fun Z hZ => ?_
  simp only [go_sem, seval, hr1, hc2]
  repeat with_reducible refine and_bar (by kernel_rfl) ?_
  refine hZ _ ?_
  refine RX2_s rfl rfl fun Z hZ => ?_
  simp only [go_sem, seval, hr1, hc2]
  repeat with_reducible refine and_bar (by kernel_rfl) ?_
  refine hZ _ ?_
  refine RX2_end (by kernel_rfl) (hY _ (pp ?_))
  refine Wk_ret (pp ?_)
  cases h
  simp only [go_sem, seval, hr1, hc2]
  exact ⟨_, rfl, RokI.h⟩
def fs_turns_suspended (N : Nat) : FnS := { own := [], pure := false, fn := fun cs => match cs with
  | [c0] => (Actor.decA c0).bind fun qc0 => (turns_suspended N qc0).map fun r => .tup [.agg (Turn.row r.1), .val (.bool r.2)]
  | _ => none }
attribute [go_sem] fs_turns_suspended
theorem fs_turns_suspended_ok (N : Nat) : FSOk Try.prog 50 (fs_turns_suspended N) := by
  refine ⟨fun cs r h => ?_, fun h => by cases h⟩
  simp only [fs_turns_suspended] at h
  split at h
  · simp only [Option.bind_eq_some_iff, Option.map_eq_some_iff] at h
    obtain ⟨q0, h0, r', hr, rfl⟩ := h
    exact ((w_turns_suspended N q0 r' hr).args (LeL.cons (Actor.decA_le h0) (LeL.nil)))
  · cases h


noncomputable def G_turns_StartCall (N d f : Nat) : Option FnS := glist [(13, 15, fs_turns_Valid N), (18, 50, fs_turns_suspended N), (30, 21, fs_turns_SameID N), (41, 78, fs_turns_replaced N)] d f
attribute [go_sem] G_turns_StartCall
set_option maxHeartbeats 40000000 in
theorem w_turns_StartCall (N : Nat) (a0 : Actor) (a1 : ByteArray) (a2 : Int) (a3 : (List Int)) (r : Actor × Int) (h : turns_StartCall N a0 a1 a2 a3 = some r) : Con Try.prog 37 [] false [.agg (Actor.row a0), .val (.string a1), .val (.int .i64 a2), .sl false none 1 none (a3.map (rowI .i64))] (.tup [.agg (Actor.row r.1), .val (.int .i64 r.2)]) := by
  refine fun_ok4 (G := (G_turns_StartCall N)) Try.func37 rfl (by decide) (by kernel_rfl) (gc 13 (fs_turns_Valid_ok N) (gc 18 (fs_turns_suspended_ok N) (gc 30 (fs_turns_SameID_ok N) (gc 41 (fs_turns_replaced_ok N) gn)))) [] mix (Nat.le_of_ble_eq_true rfl) ?_
  simp only [Try.f37]
  unfold turns_StartCall at h
  refine Wk_seq (Wk_regionZ fun Z hZ => ?_)
  simp only [go_sem, seval]
  refine hZ _ (pp ?_)
  refine Wk_seq (Wk_seq ?_)
  obtain ⟨r1, hr1, h⟩ := Option.bind_eq_some_iff.1 h
  refine Wk_regionZ fun Z hZ => ?_
  simp only [go_sem, seval, hr1]
  refine hZ _ (pp ?_)
  refine Wk_cond_nbool rfl (fun hc2 => ?_) (fun hc2 => ?_)
  · rw [if_neg (ne_true_of_eq_false hc2)] at h
    refine Wk_seq (Wk_regionZ fun Z hZ => ?_)
    simp only [go_sem, seval, hr1, hc2]
    refine hZ _ (pp ?_)
    refine Wk_ret (pp ?_)
    cases h
    simp only [go_sem, seval, hr1, hc2]
    exact ⟨_, rfl, RokI.h⟩
  rw [if_pos hc2] at h
  refine Wk_skip (pp ?_)
  refine Wk_seq ?_
  obtain ⟨r2, hr3, h⟩ := Option.bind_eq_some_iff.1 h
  refine Wk_regionZ fun Z hZ => ?_
  simp only [go_sem, seval, hr1, hc2, hr3]
  refine hZ _ (pp ?_)
  refine Wk_seq (Wk_block ?_)
  apply Wk_join1 (fun (c7 : Bool) => ⟨tab 44 (updT (updT (updT (updT deadT 4 (.pref 4 [] 0 0)) 8 (.pref 8 [] 0 0)) 10 (.pref 10 [] 0 0)) 21 (.val (.bool c7))), (upd (upd (upd RZ 4 (.sl true none 4 (some 1) [Actor.row a0])) 8 (.sl true none 4 (some 1) [[.val (.string (⟨#[]⟩)), .val (.string (⟨#[]⟩)), .val (.int .i64 0), .val (.slice none 0 0)]])) 10 (.sl true none 30 (some 1) [Turn.row r2.1]))⟩)
  · intro hJ4
    refine Wk_regionZ fun Z hZ => ?_
    simp only [go_sem, seval, hr1, hc2, hr3]
    refine RX_guard_nbool rfl (fun hc5 => ?_) (fun hc5 => ?_)
    · rw [if_neg (ne_true_of_eq_false hc5)] at h
      simp only [go_sem, seval, hr1, hc2, hr3, hc5]
      refine hZ _ (pp ?_)
      refine hJ4 _ true ?_ h
      refine weak_roots ?_ ?_ <;> repeat' first | exact xn | exact rn | refine xc ?_ ?_ | refine rc ?_ ?_ ?_ | rfl | simp only [go_sem, seval, Bool.or_self, List.length_set, Int.natCast_zero, Int.cast_ofNat_Int, hr1, hc2, hr3, hc5]
    rw [if_pos hc5] at h
    obtain ⟨r8, hr6, h⟩ := Option.bind_eq_some_iff.1 h
    simp only [go_sem, seval, hr1, hc2, hr3, hc5, hr6]
    refine hZ _ (pp ?_)
    refine hJ4 _ (!r8) ?_ h
    refine weak_roots ?_ ?_ <;> repeat' first | exact xn | exact rn | refine xc ?_ ?_ | refine rc ?_ ?_ ?_ | rfl | simp only [go_sem, seval, Bool.or_self, List.length_set, Int.natCast_zero, Int.cast_ofNat_Int, hr1, hc2, hr3, hc5, hr6]
  intro c7 h
  unfold turns_StartCall_J1 at h
  refine Wk_cond_bool rfl (fun hc7 => ?_) (fun hc7 => ?_)
  · rw [if_pos hc7] at h
    refine Wk_seq (Wk_regionZ fun Z hZ => ?_)
    simp only [go_sem, seval, hr1, hc2, hr3, hc7]
    refine hZ _ (pp ?_)
    refine Wk_ret (pp ?_)
    cases h
    simp only [go_sem, seval, hr1, hc2, hr3, hc7]
    exact ⟨_, rfl, RokI.h⟩
  rw [if_neg (ne_true_of_eq_false hc7)] at h
  refine Wk_seq (Wk_regionZ fun Z hZ => ?_)
  simp only [go_sem, seval, hr1, hc2, hr3, hc7]
  refine hZ _ (pp ?_)
  refine Wk_cond_bool rfl (fun hc8 => ?_) (fun hc8 => ?_)
  · rw [if_pos hc8] at h
    refine Wk_seq (Wk_regionZ fun Z hZ => ?_)
    simp only [go_sem, seval, hr1, hc2, hr3, hc7, hc8]
    refine hZ _ (pp ?_)
    refine Wk_ret (pp ?_)
    cases h
    simp only [go_sem, seval, hr1, hc2, hr3, hc7, hc8]
    exact ⟨_, rfl, RokI.h⟩
  rw [if_neg (ne_true_of_eq_false hc8)] at h
  refine Wk_skip (pp ?_)
  unfold turns_StartCall_J2 at h
  refine Wk_seq (Wk_regionZ fun Z hZ => ?_)
  simp only [go_sem, seval, hr1, hc2, hr3, hc7, hc8]
  refine hZ _ (pp ?_)
  refine Wk_seq ?_
  obtain ⟨r9, hr9, h⟩ := Option.bind_eq_some_iff.1 h
  refine Wk_regionZ fun Z hZ => ?_
  simp only [go_sem, seval, hr1, hc2, hr3, hc7, hc8, hr9]
  refine hZ _ (pp ?_)
  refine Wk_ret (pp ?_)
  cases h
  simp only [go_sem, seval, hr1, hc2, hr3, hc7, hc8, hr9]
  exact ⟨_, rfl, RokI.h⟩
def fs_turns_StartCall (N : Nat) : FnS := { own := [], pure := false, fn := fun cs => match cs with
  | [c0, c1, c2, c3] => (Actor.decA c0).bind fun qc0 => (decS c1).bind fun qc1 => ((decI .i64) c2).bind fun qc2 => ((decL 1 (dec1 (decI .i64))) c3).bind fun qc3 => (turns_StartCall N qc0 qc1 qc2 qc3).map fun r => .tup [.agg (Actor.row r.1), .val (.int .i64 r.2)]
  | _ => none }
attribute [go_sem] fs_turns_StartCall
theorem fs_turns_StartCall_ok (N : Nat) : FSOk Try.prog 37 (fs_turns_StartCall N) := by
  refine ⟨fun cs r h => ?_, fun h => by cases h⟩
  simp only [fs_turns_StartCall] at h
  split at h
  · simp only [Option.bind_eq_some_iff, Option.map_eq_some_iff] at h
    obtain ⟨q0, h0, q1, h1, q2, h2, q3, h3, r', hr, rfl⟩ := h
    exact ((w_turns_StartCall N q0 q1 q2 q3 r' hr).args (LeL.cons (Actor.decA_le h0) (LeL.cons (decS_le h1) (LeL.cons (decI_le h2) (LeL.cons (decL_le (decI1_le .i64) h3) (LeL.nil))))))
  · cases h


noncomputable def G_turns_Waiting (N d f : Nat) : Option FnS := glist [(8, 50, fs_turns_suspended N), (12, 15, fs_turns_Valid N), (25, 51, fso_turns_cloneRequest N)] d f
attribute [go_sem] G_turns_Waiting
set_option maxHeartbeats 40000000 in
theorem w_turns_Waiting (N : Nat) (a0 : Actor) (r : Request × Bool) (h : turns_Waiting N a0 = some r) : Con Try.prog 13 [] false [.agg (Actor.row a0)] (.tup [.agg [.val (.string r.1.Client), .val (.int .i64 r.1.Seq), .sl true none 1 none (r.1.Path.map (rowI .i64)), .val (.string r.1.Target.Type_), .val (.string r.1.Target.Key), .val (.string r.1.Method), .sl true none 5 none (r.1.Args.map Value.row), .sl true none 2 none (r.1.Chain.map Ref.row), .val (.int .i64 r.1.Txn)], .val (.bool r.2)]) := by
  refine fun_ok4 (G := (G_turns_Waiting N)) Try.func13 rfl (by decide) (by kernel_rfl) (gc 8 (fs_turns_suspended_ok N) (gc 12 (fs_turns_Valid_ok N) (gc 25 (fso_turns_cloneRequest_ok N) gn))) [] mix (Nat.le_of_ble_eq_true rfl) ?_
  simp only [Try.f13]
  unfold turns_Waiting at h
  refine Wk_seq (Wk_regionZ fun Z hZ => ?_)
  simp only [go_sem, seval]
  refine hZ _ (pp ?_)
  refine Wk_seq ?_
  obtain ⟨r1, hr1, h⟩ := Option.bind_eq_some_iff.1 h
  refine Wk_regionZ fun Z hZ => ?_
  simp only [go_sem, seval, hr1]
  refine hZ _ (pp ?_)
  refine Wk_seq ?_
  apply Wk_join1 (fun (c6 : Bool) => ⟨tab 26 (updT (updT (updT deadT 2 (.pref 2 [] 0 0)) 4 (.pref 4 [] 0 0)) 21 (.val (.bool c6))), (upd (upd RZ 2 (.sl true none 9 (some 1) [[.val (.string (⟨#[]⟩)), .val (.int .i64 0), .val (.slice none 0 0), .val (.string (⟨#[]⟩)), .val (.string (⟨#[]⟩)), .val (.string (⟨#[]⟩)), .val (.slice none 0 0), .val (.slice none 0 0), .val (.int .i64 0)]])) 4 (.sl true none 30 (some 1) [Turn.row r1.1]))⟩)
  · intro hJ2
    obtain ⟨r7, hr3, h⟩ := Option.bind_eq_some_iff.1 h
    refine Wk_regionZ fun Z hZ => ?_
    simp only [go_sem, seval, hr1, hr3]
    refine RX_guard_nbool rfl (fun hc4 => ?_) (fun hc4 => ?_)
    · rw [if_neg (ne_true_of_eq_false hc4)] at h
      simp only [go_sem, seval, hr1, hr3, hc4]
      refine hZ _ (pp ?_)
      refine hJ2 _ true ?_ h
      refine weak_roots ?_ ?_ <;> repeat' first | exact xn | exact rn | refine xc ?_ ?_ | refine rc ?_ ?_ ?_ | rfl | simp only [go_sem, seval, Bool.or_self, List.length_set, Int.natCast_zero, Int.cast_ofNat_Int, hr1, hr3, hc4]
    rw [if_pos hc4] at h
    simp only [go_sem, seval, hr1, hr3, hc4]
    refine RX_guard_nbool rfl (fun hc5 => ?_) (fun hc5 => ?_)
    · rw [if_neg (ne_true_of_eq_false hc5)] at h
      simp only [go_sem, seval, hr1, hr3, hc4, hc5]
      refine hZ _ (pp ?_)
      refine hJ2 _ true ?_ h
      refine weak_roots ?_ ?_ <;> repeat' first | exact xn | exact rn | refine xc ?_ ?_ | refine rc ?_ ?_ ?_ | rfl | simp only [go_sem, seval, Bool.or_self, List.length_set, Int.natCast_zero, Int.cast_ofNat_Int, hr1, hr3, hc4, hc5]
    rw [if_pos hc5] at h
    simp only [go_sem, seval, hr1, hr3, hc4, hc5]
    refine hZ _ (pp ?_)
    refine hJ2 _ r1.1.Done ?_ h
    refine weak_roots ?_ ?_ <;> repeat' first | exact xn | exact rn | refine xc ?_ ?_ | refine rc ?_ ?_ ?_ | rfl | simp only [go_sem, seval, Bool.or_self, List.length_set, Int.natCast_zero, Int.cast_ofNat_Int, hr1, hr3, hc4, hc5]
  intro c6 h
  unfold turns_Waiting_J1 at h
  refine Wk_cond_bool rfl (fun hc6 => ?_) (fun hc6 => ?_)
  · rw [if_pos hc6] at h
    refine Wk_seq (Wk_regionZ fun Z hZ => ?_)
    simp only [go_sem, seval, hr1, hc6]
    refine hZ _ (pp ?_)
    refine Wk_ret (pp ?_)
    cases h
    simp only [go_sem, seval, hr1, hc6]
    exact ⟨_, rfl, RokI.h⟩
  rw [if_neg (ne_true_of_eq_false hc6)] at h
  refine Wk_skip (pp ?_)
  unfold turns_Waiting_J2 at h
  refine Wk_seq ?_
  obtain ⟨r8, hr7, h⟩ := Option.bind_eq_some_iff.1 h
  refine Wk_regionZ fun Z hZ => ?_
  simp only [go_sem, seval, hr1, hc6, hr7]
  refine hZ _ (pp ?_)
  refine Wk_ret (pp ?_)
  cases h
  simp only [go_sem, seval, hr1, hc6, hr7]
  exact ⟨_, rfl, RokI.h⟩
def fs_turns_Waiting (N : Nat) : FnS := { own := [], pure := false, fn := fun cs => match cs with
  | [c0] => (Actor.decA c0).bind fun qc0 => (turns_Waiting N qc0).map fun r => .tup [.agg (Request.row r.1), .val (.bool r.2)]
  | _ => none }
attribute [go_sem] fs_turns_Waiting
theorem fs_turns_Waiting_ok (N : Nat) : FSOk Try.prog 13 (fs_turns_Waiting N) := by
  refine ⟨fun cs r h => ?_, fun h => by cases h⟩
  simp only [fs_turns_Waiting] at h
  split at h
  · simp only [Option.bind_eq_some_iff, Option.map_eq_some_iff] at h
    obtain ⟨q0, h0, r', hr, rfl⟩ := h
    exact (((w_turns_Waiting N q0 r' hr).args (LeL.cons (Actor.decA_le h0) (LeL.nil))).res (by (try simp only [go_sem]); exact RokI.h))
  · cases h

def fso_turns_Waiting (N : Nat) : FnS := { own := [], pure := false, fn := fun cs => match cs with
  | [c0] => (Actor.decA c0).bind fun qc0 => (turns_Waiting N qc0).map fun r => .tup [.agg [.val (.string r.1.Client), .val (.int .i64 r.1.Seq), .sl true none 1 none (r.1.Path.map (rowI .i64)), .val (.string r.1.Target.Type_), .val (.string r.1.Target.Key), .val (.string r.1.Method), .sl true none 5 none (r.1.Args.map Value.row), .sl true none 2 none (r.1.Chain.map Ref.row), .val (.int .i64 r.1.Txn)], .val (.bool r.2)]
  | _ => none }
attribute [go_sem] fso_turns_Waiting
theorem fso_turns_Waiting_ok (N : Nat) : FSOk Try.prog 13 (fso_turns_Waiting N) := by
  refine ⟨fun cs r h => ?_, fun h => by cases h⟩
  simp only [fso_turns_Waiting] at h
  split at h
  · simp only [Option.bind_eq_some_iff, Option.map_eq_some_iff] at h
    obtain ⟨q0, h0, r', hr, rfl⟩ := h
    exact ((w_turns_Waiting N q0 r' hr).args (LeL.cons (Actor.decA_le h0) (LeL.nil)))
  · cases h


noncomputable def G_turns_Answer (N d f : Nat) : Option FnS := glist [(9, 15, fs_turns_Valid N), (13, 19, fs_turns_ValidReply N), (19, 50, fs_turns_suspended N), (34, 21, fs_turns_SameID N), (52, 78, fs_turns_replaced N)] d f
attribute [go_sem] G_turns_Answer
set_option maxHeartbeats 40000000 in
theorem w_turns_Answer (N : Nat) (a0 : Actor) (a1 : Reply) (r : Actor × Int) (h : turns_Answer N a0 a1 = some r) : Con Try.prog 39 [] false [.agg (Actor.row a0), .agg (Reply.row a1)] (.tup [.agg (Actor.row r.1), .val (.int .i64 r.2)]) := by
  refine fun_ok4 (G := (G_turns_Answer N)) Try.func39 rfl (by decide) (by kernel_rfl) (gc 9 (fs_turns_Valid_ok N) (gc 13 (fs_turns_ValidReply_ok N) (gc 19 (fs_turns_suspended_ok N) (gc 34 (fs_turns_SameID_ok N) (gc 52 (fs_turns_replaced_ok N) gn))))) [] mix (Nat.le_of_ble_eq_true rfl) ?_
  simp only [Try.f39]
  unfold turns_Answer at h
  refine Wk_seq (Wk_regionZ fun Z hZ => ?_)
  simp only [go_sem, seval]
  refine hZ _ (pp ?_)
  refine Wk_seq ?_
  apply Wk_join1 (fun (c7 : Bool) => ⟨tab 55 (updT (updT (updT (updT deadT 2 (.pref 2 [] 0 0)) 3 (.pref 3 [] 0 0)) 4 (.pref 4 [] 0 0)) 15 (.val (.bool c7))), (upd (upd (upd RZ 2 (.sl true none 4 (some 1) [Actor.row a0])) 3 (.sl true none 9 (some 1) [Reply.row a1])) 4 (.sl true none 4 (some 1) [[.val (.string (⟨#[]⟩)), .val (.string (⟨#[]⟩)), .val (.int .i64 0), .val (.slice none 0 0)]]))⟩)
  · intro hJ1
    obtain ⟨r8, hr2, h⟩ := Option.bind_eq_some_iff.1 h
    refine Wk_regionZ fun Z hZ => ?_
    simp only [go_sem, seval, hr2]
    refine RX_guard_nbool rfl (fun hc3 => ?_) (fun hc3 => ?_)
    · rw [if_neg (ne_true_of_eq_false hc3)] at h
      simp only [go_sem, seval, hr2, hc3]
      refine hZ _ (pp ?_)
      refine hJ1 _ true ?_ h
      refine weak_roots ?_ ?_ <;> repeat' first | exact xn | exact rn | refine xc ?_ ?_ | refine rc ?_ ?_ ?_ | rfl | simp only [go_sem, seval, Bool.or_self, List.length_set, Int.natCast_zero, Int.cast_ofNat_Int, hr2, hc3]
    rw [if_pos hc3] at h
    obtain ⟨r9, hr4, h⟩ := Option.bind_eq_some_iff.1 h
    simp only [go_sem, seval, hr2, hc3, hr4]
    refine hZ _ (pp ?_)
    refine hJ1 _ (!r9) ?_ h
    refine weak_roots ?_ ?_ <;> repeat' first | exact xn | exact rn | refine xc ?_ ?_ | refine rc ?_ ?_ ?_ | rfl | simp only [go_sem, seval, Bool.or_self, List.length_set, Int.natCast_zero, Int.cast_ofNat_Int, hr2, hc3, hr4]
  intro c7 h
  unfold turns_Answer_J1 at h
  refine Wk_cond_bool rfl (fun hc5 => ?_) (fun hc5 => ?_)
  · rw [if_pos hc5] at h
    refine Wk_seq (Wk_regionZ fun Z hZ => ?_)
    simp only [go_sem, seval, hc5]
    refine hZ _ (pp ?_)
    refine Wk_ret (pp ?_)
    cases h
    simp only [go_sem, seval, hc5]
    exact ⟨_, rfl, RokI.h⟩
  rw [if_neg (ne_true_of_eq_false hc5)] at h
  refine Wk_skip (pp ?_)
  unfold turns_Answer_J5 at h
  refine Wk_seq ?_
  obtain ⟨r10, hr6, h⟩ := Option.bind_eq_some_iff.1 h
  refine Wk_regionZ fun Z hZ => ?_
  simp only [go_sem, seval, hc5, hr6]
  refine hZ _ (pp ?_)
  refine Wk_seq (Wk_block ?_)
  apply Wk_join1 (fun (c17 : Bool) => ⟨tab 55 (updT (updT (updT (updT (updT deadT 2 (.pref 2 [] 0 0)) 3 (.pref 3 [] 0 0)) 4 (.pref 4 [] 0 0)) 6 (.pref 6 [] 0 0)) 22 (.val (.bool c17))), (upd (upd (upd (upd RZ 2 (.sl true none 4 (some 1) [Actor.row a0])) 3 (.sl true none 9 (some 1) [Reply.row a1])) 4 (.sl true none 4 (some 1) [[.val (.string (⟨#[]⟩)), .val (.string (⟨#[]⟩)), .val (.int .i64 0), .val (.slice none 0 0)]])) 6 (.sl true none 30 (some 1) [Turn.row r10.1]))⟩)
  · intro hJ7
    refine Wk_regionZ fun Z hZ => ?_
    simp only [go_sem, seval, hc5, hr6]
    refine RX_guard_nbool rfl (fun hc8 => ?_) (fun hc8 => ?_)
    · rw [if_neg (ne_true_of_eq_false hc8)] at h
      simp only [go_sem, seval, hc5, hr6, hc8]
      refine hZ _ (pp ?_)
      refine hJ7 _ true ?_ h
      refine weak_roots ?_ ?_ <;> repeat' first | exact xn | exact rn | refine xc ?_ ?_ | refine rc ?_ ?_ ?_ | rfl | simp only [go_sem, seval, Bool.or_self, List.length_set, Int.natCast_zero, Int.cast_ofNat_Int, hc5, hr6, hc8]
    rw [if_pos hc8] at h
    obtain ⟨r18, hr9, h⟩ := Option.bind_eq_some_iff.1 h
    simp only [go_sem, seval, hc5, hr6, hc8, hr9]
    refine hZ _ (pp ?_)
    refine hJ7 _ (!r18) ?_ h
    refine weak_roots ?_ ?_ <;> repeat' first | exact xn | exact rn | refine xc ?_ ?_ | refine rc ?_ ?_ ?_ | rfl | simp only [go_sem, seval, Bool.or_self, List.length_set, Int.natCast_zero, Int.cast_ofNat_Int, hc5, hr6, hc8, hr9]
  intro c17 h
  unfold turns_Answer_J3 at h
  refine Wk_cond_bool rfl (fun hc10 => ?_) (fun hc10 => ?_)
  · rw [if_pos hc10] at h
    refine Wk_seq (Wk_regionZ fun Z hZ => ?_)
    simp only [go_sem, seval, hc5, hr6, hc10]
    refine hZ _ (pp ?_)
    refine Wk_ret (pp ?_)
    cases h
    simp only [go_sem, seval, hc5, hr6, hc10]
    exact ⟨_, rfl, RokI.h⟩
  rw [if_neg (ne_true_of_eq_false hc10)] at h
  apply Wk_join1 (fun (c19 : Bool) => ⟨tab 55 (updT (updT (updT (updT (updT deadT 2 (.pref 2 [] 0 0)) 3 (.pref 3 [] 0 0)) 4 (.pref 4 [] 0 0)) 6 (.pref 6 [] 0 0)) 38 (.val (.bool c19))), (upd (upd (upd (upd RZ 2 (.sl true none 4 (some 1) [Actor.row a0])) 3 (.sl true none 9 (some 1) [Reply.row a1])) 4 (.sl true none 4 (some 1) [[.val (.string (⟨#[]⟩)), .val (.string (⟨#[]⟩)), .val (.int .i64 0), .val (.slice none 0 0)]])) 6 (.sl true none 30 (some 1) [Turn.row r10.1]))⟩)
  · intro hJ11
    refine Wk_regionZ fun Z hZ => ?_
    simp only [go_sem, seval, hc5, hr6, hc10]
    refine RX_guard_nbool rfl (fun hc12 => ?_) (fun hc12 => ?_)
    · rw [if_neg (ne_true_of_eq_false hc12)] at h
      simp only [go_sem, seval, hc5, hr6, hc10, hc12]
      refine hZ _ (pp ?_)
      refine hJ11 _ true ?_ h
      refine weak_roots ?_ ?_ <;> repeat' first | exact xn | exact rn | refine xc ?_ ?_ | refine rc ?_ ?_ ?_ | rfl | simp only [go_sem, seval, Bool.or_self, List.length_set, Int.natCast_zero, Int.cast_ofNat_Int, hc5, hr6, hc10, hc12]
    rw [if_pos hc12] at h
    simp only [go_sem, seval, hc5, hr6, hc10, hc12]
    refine hZ _ (pp ?_)
    refine hJ11 _ r10.1.Done ?_ h
    refine weak_roots ?_ ?_ <;> repeat' first | exact xn | exact rn | refine xc ?_ ?_ | refine rc ?_ ?_ ?_ | rfl | simp only [go_sem, seval, Bool.or_self, List.length_set, Int.natCast_zero, Int.cast_ofNat_Int, hc5, hr6, hc10, hc12]
  intro c19 h
  unfold turns_Answer_J2 at h
  refine Wk_cond_bool rfl (fun hc13 => ?_) (fun hc13 => ?_)
  · rw [if_pos hc13] at h
    refine Wk_seq (Wk_regionZ fun Z hZ => ?_)
    simp only [go_sem, seval, hc5, hr6, hc10, hc13]
    refine hZ _ (pp ?_)
    refine Wk_ret (pp ?_)
    cases h
    simp only [go_sem, seval, hc5, hr6, hc10, hc13]
    exact ⟨_, rfl, RokI.h⟩
  rw [if_neg (ne_true_of_eq_false hc13)] at h
  refine Wk_skip (pp ?_)
  unfold turns_Answer_J4 at h
  refine Wk_seq (Wk_regionH fun Y hY => ?_)
  refine RX2_s rfl rfl fun Z hZ => ?_
  simp only [go_sem, seval, hc5, hr6, hc10, hc13]
  repeat with_reducible refine and_bar (by kernel_rfl) ?_
  refine hZ _ ?_
  refine RX2_s rfl rfl fun Z hZ => ?_
  simp only [go_sem, seval, hc5, hr6, hc10, hc13]
  repeat with_reducible refine and_bar (by kernel_rfl) ?_
  refine hZ _ ?_
  refine RX2_w fun Z hZ => ?_
  simp only [go_sem, seval, hc5, hr6, hc10, hc13]
  repeat with_reducible refine and_bar (by kernel_rfl) ?_
  refine hZ _ ?_
  refine RX2_s rfl rfl fun Z hZ => ?_
  simp only [go_sem, seval, hc5, hr6, hc10, hc13]
  repeat with_reducible refine and_bar (by kernel_rfl) ?_
  refine hZ _ ?_
  refine RX2_w fun Z hZ => ?_
  simp only [go_sem, seval, hc5, hr6, hc10, hc13]
  repeat with_reducible refine and_bar (by kernel_rfl) ?_
  refine hZ _ ?_
  refine RX2_end (by kernel_rfl) (hY _ (pp ?_))
  refine Wk_seq ?_
  obtain ⟨r20, hr14, h⟩ := Option.bind_eq_some_iff.1 h
  refine Wk_regionZ fun Z hZ => ?_
  simp only [go_sem, seval, hc5, hr6, hc10, hc13, hr14]
  refine hZ _ (pp ?_)
  refine Wk_ret (pp ?_)
  cases h
  simp only [go_sem, seval, hc5, hr6, hc10, hc13, hr14]
  exact ⟨_, rfl, RokI.h⟩
def fs_turns_Answer (N : Nat) : FnS := { own := [], pure := false, fn := fun cs => match cs with
  | [c0, c1] => (Actor.decA c0).bind fun qc0 => (Reply.decA c1).bind fun qc1 => (turns_Answer N qc0 qc1).map fun r => .tup [.agg (Actor.row r.1), .val (.int .i64 r.2)]
  | _ => none }
attribute [go_sem] fs_turns_Answer
theorem fs_turns_Answer_ok (N : Nat) : FSOk Try.prog 39 (fs_turns_Answer N) := by
  refine ⟨fun cs r h => ?_, fun h => by cases h⟩
  simp only [fs_turns_Answer] at h
  split at h
  · simp only [Option.bind_eq_some_iff, Option.map_eq_some_iff] at h
    obtain ⟨q0, h0, q1, h1, r', hr, rfl⟩ := h
    exact ((w_turns_Answer N q0 q1 r' hr).args (LeL.cons (Actor.decA_le h0) (LeL.cons (Reply.decA_le h1) (LeL.nil))))
  · cases h


noncomputable def G_turns_Resume (N d f : Nat) : Option FnS := glist [(10, 15, fs_turns_Valid N), (16, 50, fs_turns_suspended N), (37, 78, fs_turns_replaced N), (48, 80, fso_turns_cloneReply N)] d f
attribute [go_sem] G_turns_Resume
set_option maxHeartbeats 40000000 in
theorem w_turns_Resume (N : Nat) (a0 : Actor) (r : Actor × Reply × Int) (h : turns_Resume N a0 = some r) : Con Try.prog 41 [] false [.agg (Actor.row a0)] (.tup [.agg (Actor.row r.1), .agg [.val (.string r.2.1.Client), .val (.int .i64 r.2.1.Seq), .sl true none 1 none (r.2.1.Path.map (rowI .i64)), .val (.int .i64 r.2.1.Err), .val (.int .i64 r.2.1.Value_.Kind), .val (.int .i64 r.2.1.Value_.N), .val (.string r.2.1.Value_.S), .sl true none 1 none (r.2.1.Value_.I.map (rowI .i64)), .sl true none 1 none (r.2.1.Value_.L.map rowS)], .val (.int .i64 r.2.2)]) := by
  refine fun_ok4 (G := (G_turns_Resume N)) Try.func41 rfl (by decide) (by kernel_rfl) (gc 10 (fs_turns_Valid_ok N) (gc 16 (fs_turns_suspended_ok N) (gc 37 (fs_turns_replaced_ok N) (gc 48 (fso_turns_cloneReply_ok N) gn)))) [] mix (Nat.le_of_ble_eq_true rfl) ?_
  simp only [Try.f41]
  unfold turns_Resume at h
  refine Wk_seq (Wk_regionZ fun Z hZ => ?_)
  simp only [go_sem, seval]
  refine hZ _ (pp ?_)
  refine Wk_seq (Wk_seq ?_)
  obtain ⟨r1, hr1, h⟩ := Option.bind_eq_some_iff.1 h
  refine Wk_regionZ fun Z hZ => ?_
  simp only [go_sem, seval, hr1]
  refine hZ _ (pp ?_)
  refine Wk_cond_nbool rfl (fun hc2 => ?_) (fun hc2 => ?_)
  · rw [if_neg (ne_true_of_eq_false hc2)] at h
    refine Wk_seq (Wk_regionZ fun Z hZ => ?_)
    simp only [go_sem, seval, hr1, hc2]
    refine hZ _ (pp ?_)
    refine Wk_ret (pp ?_)
    cases h
    simp only [go_sem, seval, hr1, hc2]
    exact ⟨_, rfl, RokI.h⟩
  rw [if_pos hc2] at h
  refine Wk_skip (pp ?_)
  refine Wk_seq ?_
  obtain ⟨r2, hr3, h⟩ := Option.bind_eq_some_iff.1 h
  refine Wk_regionZ fun Z hZ => ?_
  simp only [go_sem, seval, hr1, hc2, hr3]
  refine hZ _ (pp ?_)
  refine Wk_seq (Wk_block (Wk_seq (Wk_regionZ fun Z hZ => ?_)))
  simp only [go_sem, seval, hr1, hc2, hr3]
  refine hZ _ (pp ?_)
  refine Wk_cond_nbool rfl (fun hc4 => ?_) (fun hc4 => ?_)
  · rw [if_neg (ne_true_of_eq_false hc4)] at h
    refine Wk_seq (Wk_regionZ fun Z hZ => ?_)
    simp only [go_sem, seval, hr1, hc2, hr3, hc4]
    refine hZ _ (pp ?_)
    refine Wk_ret (pp ?_)
    cases h
    simp only [go_sem, seval, hr1, hc2, hr3, hc4]
    exact ⟨_, rfl, RokI.h⟩
  rw [if_pos hc4] at h
  refine Wk_seq (Wk_regionZ fun Z hZ => ?_)
  simp only [go_sem, seval, hr1, hc2, hr3, hc4]
  refine hZ _ (pp ?_)
  refine Wk_cond_nbool rfl (fun hc5 => ?_) (fun hc5 => ?_)
  · rw [if_neg (ne_true_of_eq_false hc5)] at h
    refine Wk_seq (Wk_regionZ fun Z hZ => ?_)
    simp only [go_sem, seval, hr1, hc2, hr3, hc4, hc5]
    refine hZ _ (pp ?_)
    refine Wk_ret (pp ?_)
    cases h
    simp only [go_sem, seval, hr1, hc2, hr3, hc4, hc5]
    exact ⟨_, rfl, RokI.h⟩
  rw [if_pos hc5] at h
  refine Wk_skip (pp ?_)
  refine Wk_seq ?_
  obtain ⟨r3, hr6, h⟩ := Option.bind_eq_some_iff.1 h
  refine Wk_regionZ fun Z hZ => ?_
  simp only [go_sem, seval, hr1, hc2, hr3, hc4, hc5, hr6]
  refine hZ _ (pp ?_)
  refine Wk_seq (Wk_seq (Wk_regionZ fun Z hZ => ?_))
  simp only [go_sem, seval, hr1, hc2, hr3, hc4, hc5, hr6]
  refine hZ _ (pp ?_)
  refine Wk_cond_ndec rfl (fun hc7 => ?_) (fun hc7 => ?_)
  · have hc7d := decide_eq_false hc7
    first | rw [if_neg hc7] at h | rw [if_neg (ne_true_of_eq_false hc7d)] at h
    refine Wk_seq (Wk_regionZ fun Z hZ => ?_)
    simp only [go_sem, seval, hr1, hc2, hr3, hc4, hc5, hr6, hc7d]
    refine hZ _ (pp ?_)
    refine Wk_ret (pp ?_)
    cases h
    simp only [go_sem, seval, hr1, hc2, hr3, hc4, hc5, hr6, hc7d]
    exact ⟨_, rfl, RokI.h⟩
  have hc7d := decide_eq_true hc7
  first | rw [if_pos hc7] at h | rw [if_pos hc7d] at h
  refine Wk_skip (pp ?_)
  refine Wk_seq ?_
  obtain ⟨r4, hr8, h⟩ := Option.bind_eq_some_iff.1 h
  refine Wk_regionD fun Z hZ => ?_
  simp only [go_sem, seval, hr1, hc2, hr3, hc4, hc5, hr6, hc7d, hr8]
  repeat with_reducible refine and_bar (by kernel_rfl) ?_
  refine hZ _ (by kernel_rfl) (pp ?_)
  refine Wk_ret (pp ?_)
  cases h
  simp only [go_sem, seval, hr1, hc2, hr3, hc4, hc5, hr6, hc7d, hr8]
  exact ⟨_, rfl, RokI.h⟩
def fs_turns_Resume (N : Nat) : FnS := { own := [], pure := false, fn := fun cs => match cs with
  | [c0] => (Actor.decA c0).bind fun qc0 => (turns_Resume N qc0).map fun r => .tup [.agg (Actor.row r.1), .agg (Reply.row r.2.1), .val (.int .i64 r.2.2)]
  | _ => none }
attribute [go_sem] fs_turns_Resume
theorem fs_turns_Resume_ok (N : Nat) : FSOk Try.prog 41 (fs_turns_Resume N) := by
  refine ⟨fun cs r h => ?_, fun h => by cases h⟩
  simp only [fs_turns_Resume] at h
  split at h
  · simp only [Option.bind_eq_some_iff, Option.map_eq_some_iff] at h
    obtain ⟨q0, h0, r', hr, rfl⟩ := h
    exact (((w_turns_Resume N q0 r' hr).args (LeL.cons (Actor.decA_le h0) (LeL.nil))).res (by (try simp only [go_sem]); exact RokI.h))
  · cases h

def fso_turns_Resume (N : Nat) : FnS := { own := [], pure := false, fn := fun cs => match cs with
  | [c0] => (Actor.decA c0).bind fun qc0 => (turns_Resume N qc0).map fun r => .tup [.agg (Actor.row r.1), .agg [.val (.string r.2.1.Client), .val (.int .i64 r.2.1.Seq), .sl true none 1 none (r.2.1.Path.map (rowI .i64)), .val (.int .i64 r.2.1.Err), .val (.int .i64 r.2.1.Value_.Kind), .val (.int .i64 r.2.1.Value_.N), .val (.string r.2.1.Value_.S), .sl true none 1 none (r.2.1.Value_.I.map (rowI .i64)), .sl true none 1 none (r.2.1.Value_.L.map rowS)], .val (.int .i64 r.2.2)]
  | _ => none }
attribute [go_sem] fso_turns_Resume
theorem fso_turns_Resume_ok (N : Nat) : FSOk Try.prog 41 (fso_turns_Resume N) := by
  refine ⟨fun cs r h => ?_, fun h => by cases h⟩
  simp only [fso_turns_Resume] at h
  split at h
  · simp only [Option.bind_eq_some_iff, Option.map_eq_some_iff] at h
    obtain ⟨q0, h0, r', hr, rfl⟩ := h
    exact ((w_turns_Resume N q0 r' hr).args (LeL.cons (Actor.decA_le h0) (LeL.nil)))
  · cases h


noncomputable def G_turns_End (N d f : Nat) : Option FnS := glist [(10, 15, fs_turns_Valid N), (16, 74, fs_turns_top N), (23, 75, fs_turns_running N), (34, 73, fs_turns_changed N), (45, 51, fs_turns_cloneRequest N)] d f
attribute [go_sem] G_turns_End
set_option maxHeartbeats 40000000 in
theorem w_turns_End (N : Nat) (a0 : Actor) (r : Actor × Request × Int) (h : turns_End N a0 = some r) : Con Try.prog 31 [] false [.agg (Actor.row a0)] (.tup [.agg (Actor.row r.1), .agg (Request.row r.2.1), .val (.int .i64 r.2.2)]) := by
  refine fun_ok4 (G := (G_turns_End N)) Try.func31 rfl (by decide) (by kernel_rfl) (gc 10 (fs_turns_Valid_ok N) (gc 16 (fs_turns_top_ok N) (gc 23 (fs_turns_running_ok N) (gc 34 (fs_turns_changed_ok N) (gc 45 (fs_turns_cloneRequest_ok N) gn))))) [] mix (Nat.le_of_ble_eq_true rfl) ?_
  simp only [Try.f31]
  unfold turns_End at h
  refine Wk_seq (Wk_regionZ fun Z hZ => ?_)
  simp only [go_sem, seval]
  refine hZ _ (pp ?_)
  refine Wk_seq (Wk_seq ?_)
  obtain ⟨r1, hr1, h⟩ := Option.bind_eq_some_iff.1 h
  refine Wk_regionZ fun Z hZ => ?_
  simp only [go_sem, seval, hr1]
  refine hZ _ (pp ?_)
  refine Wk_cond_nbool rfl (fun hc2 => ?_) (fun hc2 => ?_)
  · rw [if_neg (ne_true_of_eq_false hc2)] at h
    refine Wk_seq (Wk_regionZ fun Z hZ => ?_)
    simp only [go_sem, seval, hr1, hc2]
    refine hZ _ (pp ?_)
    refine Wk_ret (pp ?_)
    cases h
    simp only [go_sem, seval, hr1, hc2]
    exact ⟨_, rfl, RokI.h⟩
  rw [if_pos hc2] at h
  refine Wk_skip (pp ?_)
  refine Wk_seq ?_
  obtain ⟨r2, hr3, h⟩ := Option.bind_eq_some_iff.1 h
  refine Wk_regionZ fun Z hZ => ?_
  simp only [go_sem, seval, hr1, hc2, hr3]
  refine hZ _ (pp ?_)
  refine Wk_seq ?_
  apply Wk_join1 (fun (c7 : Bool) => ⟨tab 46 (updT (updT (updT (updT (updT deadT 1 (.pref 1 [] 0 0)) 2 (.pref 2 [] 0 0)) 3 (.pref 3 [] 0 0)) 5 (.pref 5 [] 0 0)) 25 (.val (.bool c7))), (upd (upd (upd (upd RZ 1 (.sl true none 4 (some 1) [Actor.row a0])) 2 (.sl true none 4 (some 1) [[.val (.string (⟨#[]⟩)), .val (.string (⟨#[]⟩)), .val (.int .i64 0), .val (.slice none 0 0)]])) 3 (.sl true none 9 (some 1) [[.val (.string (⟨#[]⟩)), .val (.int .i64 0), .val (.slice none 0 0), .val (.string (⟨#[]⟩)), .val (.string (⟨#[]⟩)), .val (.string (⟨#[]⟩)), .val (.slice none 0 0), .val (.slice none 0 0), .val (.int .i64 0)]])) 5 (.sl true none 30 (some 1) [Turn.row r2.1]))⟩)
  · intro hJ4
    refine Wk_regionZ fun Z hZ => ?_
    simp only [go_sem, seval, hr1, hc2, hr3]
    refine RX_guard_nbool rfl (fun hc5 => ?_) (fun hc5 => ?_)
    · rw [if_neg (ne_true_of_eq_false hc5)] at h
      simp only [go_sem, seval, hr1, hc2, hr3, hc5]
      refine hZ _ (pp ?_)
      refine hJ4 _ true ?_ h
      refine weak_roots ?_ ?_ <;> repeat' first | exact xn | exact rn | refine xc ?_ ?_ | refine rc ?_ ?_ ?_ | rfl | simp only [go_sem, seval, Bool.or_self, List.length_set, Int.natCast_zero, Int.cast_ofNat_Int, hr1, hc2, hr3, hc5]
    rw [if_pos hc5] at h
    obtain ⟨r8, hr6, h⟩ := Option.bind_eq_some_iff.1 h
    simp only [go_sem, seval, hr1, hc2, hr3, hc5, hr6]
    refine hZ _ (pp ?_)
    refine hJ4 _ (!r8) ?_ h
    refine weak_roots ?_ ?_ <;> repeat' first | exact xn | exact rn | refine xc ?_ ?_ | refine rc ?_ ?_ ?_ | rfl | simp only [go_sem, seval, Bool.or_self, List.length_set, Int.natCast_zero, Int.cast_ofNat_Int, hr1, hc2, hr3, hc5, hr6]
  intro c7 h
  unfold turns_End_J1 at h
  refine Wk_cond_bool rfl (fun hc7 => ?_) (fun hc7 => ?_)
  · rw [if_pos hc7] at h
    refine Wk_seq (Wk_regionZ fun Z hZ => ?_)
    simp only [go_sem, seval, hr1, hc2, hr3, hc7]
    refine hZ _ (pp ?_)
    refine Wk_ret (pp ?_)
    cases h
    simp only [go_sem, seval, hr1, hc2, hr3, hc7]
    exact ⟨_, rfl, RokI.h⟩
  rw [if_neg (ne_true_of_eq_false hc7)] at h
  refine Wk_skip (pp ?_)
  unfold turns_End_J2 at h
  refine Wk_seq ?_
  obtain ⟨r9, hr8, h⟩ := Option.bind_eq_some_iff.1 h
  refine Wk_regionZ fun Z hZ => ?_
  simp only [go_sem, seval, hr1, hc2, hr3, hc7, hr8]
  refine hZ _ (pp ?_)
  refine Wk_seq (Wk_seq (Wk_regionZ fun Z hZ => ?_))
  simp only [go_sem, seval, hr1, hc2, hr3, hc7, hr8]
  refine hZ _ (pp ?_)
  refine Wk_cond_ndec rfl (fun hc9 => ?_) (fun hc9 => ?_)
  · have hc9d := decide_eq_false hc9
    first | rw [if_neg hc9] at h | rw [if_neg (ne_true_of_eq_false hc9d)] at h
    refine Wk_seq (Wk_regionZ fun Z hZ => ?_)
    simp only [go_sem, seval, hr1, hc2, hr3, hc7, hr8, hc9d]
    refine hZ _ (pp ?_)
    refine Wk_ret (pp ?_)
    cases h
    simp only [go_sem, seval, hr1, hc2, hr3, hc7, hr8, hc9d]
    exact ⟨_, rfl, RokI.h⟩
  have hc9d := decide_eq_true hc9
  first | rw [if_pos hc9] at h | rw [if_pos hc9d] at h
  refine Wk_skip (pp ?_)
  refine Wk_seq ?_
  obtain ⟨r10, hr10, h⟩ := Option.bind_eq_some_iff.1 h
  refine Wk_regionD fun Z hZ => ?_
  simp only [go_sem, seval, hr1, hc2, hr3, hc7, hr8, hc9d, hr10]
  repeat with_reducible refine and_bar (by kernel_rfl) ?_
  refine hZ _ (by kernel_rfl) (pp ?_)
  refine Wk_ret (pp ?_)
  cases h
  simp only [go_sem, seval, hr1, hc2, hr3, hc7, hr8, hc9d, hr10]
  exact ⟨_, rfl, RokI.h⟩
def fs_turns_End (N : Nat) : FnS := { own := [], pure := false, fn := fun cs => match cs with
  | [c0] => (Actor.decA c0).bind fun qc0 => (turns_End N qc0).map fun r => .tup [.agg (Actor.row r.1), .agg (Request.row r.2.1), .val (.int .i64 r.2.2)]
  | _ => none }
attribute [go_sem] fs_turns_End
theorem fs_turns_End_ok (N : Nat) : FSOk Try.prog 31 (fs_turns_End N) := by
  refine ⟨fun cs r h => ?_, fun h => by cases h⟩
  simp only [fs_turns_End] at h
  split at h
  · simp only [Option.bind_eq_some_iff, Option.map_eq_some_iff] at h
    obtain ⟨q0, h0, r', hr, rfl⟩ := h
    exact ((w_turns_End N q0 r' hr).args (LeL.cons (Actor.decA_le h0) (LeL.nil)))
  · cases h


noncomputable def G_law24_awake (N d f : Nat) : Option FnS := glist [(21, 27, fs_turns_New N), (23, 29, fs_turns_Begin N), (29, 35, fs_turns_Suspend N), (35, 33, fs_turns_Admits N), (39, 37, fs_turns_StartCall N), (49, 33, fs_turns_Admits N), (52, 13, fs_turns_Waiting N), (60, 39, fs_turns_Answer N), (65, 41, fs_turns_Resume N), (71, 31, fs_turns_End N)] d f
attribute [go_sem] G_law24_awake
set_option maxHeartbeats 40000000 in
theorem w_law24_awake (N : Nat)  (r : Bool) (h : law24_awake N  = some r) : Con Try.prog 9 [] true [] (.val (.bool r)) := by
  refine fun_ok4 (G := (G_law24_awake N)) Try.func9 rfl (by decide) (by kernel_rfl) (gc 21 (fs_turns_New_ok N) (gc 23 (fs_turns_Begin_ok N) (gc 29 (fs_turns_Suspend_ok N) (gc 35 (fs_turns_Admits_ok N) (gc 39 (fs_turns_StartCall_ok N) (gc 49 (fs_turns_Admits_ok N) (gc 52 (fs_turns_Waiting_ok N) (gc 60 (fs_turns_Answer_ok N) (gc 65 (fs_turns_Resume_ok N) (gc 71 (fs_turns_End_ok N) gn)))))))))) [] mix (Nat.le_of_ble_eq_true rfl) ?_
  simp only [Try.f9]
  unfold law24_awake at h
  refine Wk_seq (Wk_regionZ fun Z hZ => ?_)
  simp only [go_sem, seval]
  refine hZ _ (pp ?_)
  refine Wk_seq (Wk_regionZ fun Z hZ => ?_)
  simp only [go_sem, seval]
  refine hZ _ (pp ?_)
  refine Wk_seq (Wk_regionZ fun Z hZ => ?_)
  simp only [go_sem, seval]
  refine hZ _ (pp ?_)
  refine Wk_seq ?_
  obtain ⟨r1, hr1, h⟩ := Option.bind_eq_some_iff.1 h
  obtain ⟨r2, hr2, h⟩ := Option.bind_eq_some_iff.1 h
  refine Wk_regionH fun Y hY => ?_
  refine RX2_s rfl rfl fun Z hZ => ?_
  simp only [go_sem, seval, hr1, hr2]
  repeat with_reducible refine and_bar (by kernel_rfl) ?_
  refine hZ _ ?_
  refine RX2_s rfl rfl fun Z hZ => ?_
  simp only [go_sem, seval, hr1, hr2]
  repeat with_reducible refine and_bar (by kernel_rfl) ?_
  refine hZ _ ?_
  refine RX2_s rfl rfl fun Z hZ => ?_
  simp only [go_sem, seval, hr1, hr2]
  repeat with_reducible refine and_bar (by kernel_rfl) ?_
  refine hZ _ ?_
  refine RX2_s rfl rfl fun Z hZ => ?_
  simp only [go_sem, seval, hr1, hr2]
  repeat with_reducible refine and_bar (by kernel_rfl) ?_
  refine hZ _ ?_
  refine RX2_s rfl rfl fun Z hZ => ?_
  simp only [go_sem, seval, hr1, hr2]
  repeat with_reducible refine and_bar (by kernel_rfl) ?_
  refine hZ _ ?_
  refine RX2_s rfl rfl fun Z hZ => ?_
  simp only [go_sem, seval, hr1, hr2]
  repeat with_reducible refine and_bar (by kernel_rfl) ?_
  refine hZ _ ?_
  refine RX2_s rfl rfl fun Z hZ => ?_
  simp only [go_sem, seval, hr1, hr2]
  repeat with_reducible refine and_bar (by kernel_rfl) ?_
  refine hZ _ ?_
  refine RX2_s rfl rfl fun Z hZ => ?_
  simp only [go_sem, seval, hr1, hr2]
  repeat with_reducible refine and_bar (by kernel_rfl) ?_
  refine hZ _ ?_
  refine RX2_w fun Z hZ => ?_
  simp only [go_sem, seval, hr1, hr2]
  repeat with_reducible refine and_bar (by kernel_rfl) ?_
  refine hZ _ ?_
  refine RX2_s rfl rfl fun Z hZ => ?_
  simp only [go_sem, seval, hr1, hr2]
  repeat with_reducible refine and_bar (by kernel_rfl) ?_
  refine hZ _ ?_
  refine RX2_end (by kernel_rfl) (hY _ (pp ?_))
  refine Wk_seq ?_
  obtain ⟨r3, hr3, h⟩ := Option.bind_eq_some_iff.1 h
  refine Wk_regionZ fun Z hZ => ?_
  simp only [go_sem, seval, hr1, hr2, hr3]
  refine hZ _ (pp ?_)
  refine Wk_seq ?_
  obtain ⟨r4, hr4, h⟩ := Option.bind_eq_some_iff.1 h
  refine Wk_regionZ fun Z hZ => ?_
  simp only [go_sem, seval, hr1, hr2, hr3, hr4]
  refine hZ _ (pp ?_)
  refine Wk_seq ?_
  obtain ⟨r5, hr5, h⟩ := Option.bind_eq_some_iff.1 h
  refine Wk_regionZ fun Z hZ => ?_
  simp only [go_sem, seval, hr1, hr2, hr3, hr4, hr5]
  refine hZ _ (pp ?_)
  refine Wk_seq ?_
  obtain ⟨r6, hr6, h⟩ := Option.bind_eq_some_iff.1 h
  refine Wk_regionZ fun Z hZ => ?_
  simp only [go_sem, seval, hr1, hr2, hr3, hr4, hr5, hr6]
  refine hZ _ (pp ?_)
  refine Wk_seq ?_
  obtain ⟨r7, hr7, h⟩ := Option.bind_eq_some_iff.1 h
  refine Wk_regionZ fun Z hZ => ?_
  simp only [go_sem, seval, hr1, hr2, hr3, hr4, hr5, hr6, hr7]
  refine hZ _ (pp ?_)
  refine Wk_seq ?_
  obtain ⟨r8, hr8, h⟩ := Option.bind_eq_some_iff.1 h
  refine Wk_regionZ fun Z hZ => ?_
  simp only [go_sem, seval, hr1, hr2, hr3, hr4, hr5, hr6, hr7, hr8]
  refine hZ _ (pp ?_)
  refine Wk_seq ?_
  obtain ⟨r9, hr9, h⟩ := Option.bind_eq_some_iff.1 h
  refine Wk_regionZ fun Z hZ => ?_
  simp only [go_sem, seval, hr1, hr2, hr3, hr4, hr5, hr6, hr7, hr8, hr9]
  refine hZ _ (pp ?_)
  refine Wk_seq ?_
  obtain ⟨r10, hr10, h⟩ := Option.bind_eq_some_iff.1 h
  refine Wk_regionZ fun Z hZ => ?_
  simp only [go_sem, seval, hr1, hr2, hr3, hr4, hr5, hr6, hr7, hr8, hr9, hr10]
  refine hZ _ (pp ?_)
  refine Wk_seq (Wk_regionZ fun Z hZ => ?_)
  simp only [go_sem, seval, hr1, hr2, hr3, hr4, hr5, hr6, hr7, hr8, hr9, hr10]
  refine sw (RX_guard_dec rfl) (fun hc11 => ?_) (fun hc11 => ?_)
  · have hc11d := decide_eq_false hc11
    first | rw [if_neg hc11] at h | rw [if_neg (ne_true_of_eq_false hc11d)] at h
    simp only [go_sem, seval, hr1, hr2, hr3, hr4, hr5, hr6, hr7, hr8, hr9, hr10, hc11d]
    refine hZ _ (pp ?_)
    refine Wk_ret (pp ?_)
    cases h
    simp only [go_sem, seval, hr1, hr2, hr3, hr4, hr5, hr6, hr7, hr8, hr9, hr10, hc11d]
    exact ⟨_, rfl, RokI.h, PureI.h⟩
  have hc11d := decide_eq_true hc11
  first | rw [if_pos hc11] at h | rw [if_pos hc11d] at h
  simp only [go_sem, seval, hr1, hr2, hr3, hr4, hr5, hr6, hr7, hr8, hr9, hr10, hc11d]
  refine sw (RX_guard_dec rfl) (fun hc12 => ?_) (fun hc12 => ?_)
  · have hc12d := decide_eq_false hc12
    first | rw [if_neg hc12] at h | rw [if_neg (ne_true_of_eq_false hc12d)] at h
    simp only [go_sem, seval, hr1, hr2, hr3, hr4, hr5, hr6, hr7, hr8, hr9, hr10, hc11d, hc12d]
    refine hZ _ (pp ?_)
    refine Wk_ret (pp ?_)
    cases h
    simp only [go_sem, seval, hr1, hr2, hr3, hr4, hr5, hr6, hr7, hr8, hr9, hr10, hc11d, hc12d]
    exact ⟨_, rfl, RokI.h, PureI.h⟩
  have hc12d := decide_eq_true hc12
  first | rw [if_pos hc12] at h | rw [if_pos hc12d] at h
  simp only [go_sem, seval, hr1, hr2, hr3, hr4, hr5, hr6, hr7, hr8, hr9, hr10, hc11d, hc12d]
  refine sw (RX_guard_dec rfl) (fun hc13 => ?_) (fun hc13 => ?_)
  · have hc13d := decide_eq_false hc13
    first | rw [if_neg hc13] at h | rw [if_neg (ne_true_of_eq_false hc13d)] at h
    simp only [go_sem, seval, hr1, hr2, hr3, hr4, hr5, hr6, hr7, hr8, hr9, hr10, hc11d, hc12d, hc13d]
    refine hZ _ (pp ?_)
    refine Wk_ret (pp ?_)
    cases h
    simp only [go_sem, seval, hr1, hr2, hr3, hr4, hr5, hr6, hr7, hr8, hr9, hr10, hc11d, hc12d, hc13d]
    exact ⟨_, rfl, RokI.h, PureI.h⟩
  have hc13d := decide_eq_true hc13
  first | rw [if_pos hc13] at h | rw [if_pos hc13d] at h
  simp only [go_sem, seval, hr1, hr2, hr3, hr4, hr5, hr6, hr7, hr8, hr9, hr10, hc11d, hc12d, hc13d]
  refine sw (RX_guard_dec rfl) (fun hc14 => ?_) (fun hc14 => ?_)
  · have hc14d := decide_eq_false hc14
    first | rw [if_neg hc14] at h | rw [if_neg (ne_true_of_eq_false hc14d)] at h
    simp only [go_sem, seval, hr1, hr2, hr3, hr4, hr5, hr6, hr7, hr8, hr9, hr10, hc11d, hc12d, hc13d, hc14d]
    refine hZ _ (pp ?_)
    refine Wk_ret (pp ?_)
    cases h
    simp only [go_sem, seval, hr1, hr2, hr3, hr4, hr5, hr6, hr7, hr8, hr9, hr10, hc11d, hc12d, hc13d, hc14d]
    exact ⟨_, rfl, RokI.h, PureI.h⟩
  have hc14d := decide_eq_true hc14
  first | rw [if_pos hc14] at h | rw [if_pos hc14d] at h
  simp only [go_sem, seval, hr1, hr2, hr3, hr4, hr5, hr6, hr7, hr8, hr9, hr10, hc11d, hc12d, hc13d, hc14d]
  refine sw (RX_guard_dec rfl) (fun hc15 => ?_) (fun hc15 => ?_)
  · have hc15d := decide_eq_false hc15
    first | rw [if_neg hc15] at h | rw [if_neg (ne_true_of_eq_false hc15d)] at h
    simp only [go_sem, seval, hr1, hr2, hr3, hr4, hr5, hr6, hr7, hr8, hr9, hr10, hc11d, hc12d, hc13d, hc14d, hc15d]
    refine hZ _ (pp ?_)
    refine Wk_ret (pp ?_)
    cases h
    simp only [go_sem, seval, hr1, hr2, hr3, hr4, hr5, hr6, hr7, hr8, hr9, hr10, hc11d, hc12d, hc13d, hc14d, hc15d]
    exact ⟨_, rfl, RokI.h, PureI.h⟩
  have hc15d := decide_eq_true hc15
  first | rw [if_pos hc15] at h | rw [if_pos hc15d] at h
  simp only [go_sem, seval, hr1, hr2, hr3, hr4, hr5, hr6, hr7, hr8, hr9, hr10, hc11d, hc12d, hc13d, hc14d, hc15d]
  refine sw (RX_guard_dec rfl) (fun hc16 => ?_) (fun hc16 => ?_)
  · have hc16d := decide_eq_false hc16
    first | rw [if_neg hc16] at h | rw [if_neg (ne_true_of_eq_false hc16d)] at h
    simp only [go_sem, seval, hr1, hr2, hr3, hr4, hr5, hr6, hr7, hr8, hr9, hr10, hc11d, hc12d, hc13d, hc14d, hc15d, hc16d]
    refine hZ _ (pp ?_)
    refine Wk_ret (pp ?_)
    cases h
    simp only [go_sem, seval, hr1, hr2, hr3, hr4, hr5, hr6, hr7, hr8, hr9, hr10, hc11d, hc12d, hc13d, hc14d, hc15d, hc16d]
    exact ⟨_, rfl, RokI.h, PureI.h⟩
  have hc16d := decide_eq_true hc16
  first | rw [if_pos hc16] at h | rw [if_pos hc16d] at h
  simp only [go_sem, seval, hr1, hr2, hr3, hr4, hr5, hr6, hr7, hr8, hr9, hr10, hc11d, hc12d, hc13d, hc14d, hc15d, hc16d]
  refine sw (RX_guard_dec rfl) (fun hc17 => ?_) (fun hc17 => ?_)
  · have hc17d := decide_eq_false hc17
    first | rw [if_neg hc17] at h | rw [if_neg (ne_true_of_eq_false hc17d)] at h
    simp only [go_sem, seval, hr1, hr2, hr3, hr4, hr5, hr6, hr7, hr8, hr9, hr10, hc11d, hc12d, hc13d, hc14d, hc15d, hc16d, hc17d]
    refine hZ _ (pp ?_)
    refine Wk_ret (pp ?_)
    cases h
    simp only [go_sem, seval, hr1, hr2, hr3, hr4, hr5, hr6, hr7, hr8, hr9, hr10, hc11d, hc12d, hc13d, hc14d, hc15d, hc16d, hc17d]
    exact ⟨_, rfl, RokI.h, PureI.h⟩
  have hc17d := decide_eq_true hc17
  first | rw [if_pos hc17] at h | rw [if_pos hc17d] at h
  simp only [go_sem, seval, hr1, hr2, hr3, hr4, hr5, hr6, hr7, hr8, hr9, hr10, hc11d, hc12d, hc13d, hc14d, hc15d, hc16d, hc17d]
  refine sw (RX_guard_dec rfl) (fun hc18 => ?_) (fun hc18 => ?_)
  · have hc18d := decide_eq_false hc18
    first | rw [if_neg hc18] at h | rw [if_neg (ne_true_of_eq_false hc18d)] at h
    simp only [go_sem, seval, hr1, hr2, hr3, hr4, hr5, hr6, hr7, hr8, hr9, hr10, hc11d, hc12d, hc13d, hc14d, hc15d, hc16d, hc17d, hc18d]
    refine hZ _ (pp ?_)
    refine Wk_ret (pp ?_)
    cases h
    simp only [go_sem, seval, hr1, hr2, hr3, hr4, hr5, hr6, hr7, hr8, hr9, hr10, hc11d, hc12d, hc13d, hc14d, hc15d, hc16d, hc17d, hc18d]
    exact ⟨_, rfl, RokI.h, PureI.h⟩
  have hc18d := decide_eq_true hc18
  first | rw [if_pos hc18] at h | rw [if_pos hc18d] at h
  simp only [go_sem, seval, hr1, hr2, hr3, hr4, hr5, hr6, hr7, hr8, hr9, hr10, hc11d, hc12d, hc13d, hc14d, hc15d, hc16d, hc17d, hc18d]
  refine sw (RX_guard_bool rfl) (fun hc19 => ?_) (fun hc19 => ?_)
  · rw [if_neg (ne_true_of_eq_false hc19)] at h
    simp only [go_sem, seval, hr1, hr2, hr3, hr4, hr5, hr6, hr7, hr8, hr9, hr10, hc11d, hc12d, hc13d, hc14d, hc15d, hc16d, hc17d, hc18d, hc19]
    refine hZ _ (pp ?_)
    refine Wk_ret (pp ?_)
    cases h
    simp only [go_sem, seval, hr1, hr2, hr3, hr4, hr5, hr6, hr7, hr8, hr9, hr10, hc11d, hc12d, hc13d, hc14d, hc15d, hc16d, hc17d, hc18d, hc19]
    exact ⟨_, rfl, RokI.h, PureI.h⟩
  rw [if_pos hc19] at h
  simp only [go_sem, seval, hr1, hr2, hr3, hr4, hr5, hr6, hr7, hr8, hr9, hr10, hc11d, hc12d, hc13d, hc14d, hc15d, hc16d, hc17d, hc18d, hc19]
  refine sw (RX_guard_dec rfl) (fun hc20 => ?_) (fun hc20 => ?_)
  · have hc20d := decide_eq_false hc20
    first | rw [if_neg hc20] at h | rw [if_neg (ne_true_of_eq_false hc20d)] at h
    simp only [go_sem, seval, hr1, hr2, hr3, hr4, hr5, hr6, hr7, hr8, hr9, hr10, hc11d, hc12d, hc13d, hc14d, hc15d, hc16d, hc17d, hc18d, hc19, hc20d]
    refine hZ _ (pp ?_)
    refine Wk_ret (pp ?_)
    cases h
    simp only [go_sem, seval, hr1, hr2, hr3, hr4, hr5, hr6, hr7, hr8, hr9, hr10, hc11d, hc12d, hc13d, hc14d, hc15d, hc16d, hc17d, hc18d, hc19, hc20d]
    exact ⟨_, rfl, RokI.h, PureI.h⟩
  have hc20d := decide_eq_true hc20
  first | rw [if_pos hc20] at h | rw [if_pos hc20d] at h
  simp only [go_sem, seval, hr1, hr2, hr3, hr4, hr5, hr6, hr7, hr8, hr9, hr10, hc11d, hc12d, hc13d, hc14d, hc15d, hc16d, hc17d, hc18d, hc19, hc20d]
  refine sw (RX_guard_dec rfl) (fun hc21 => ?_) (fun hc21 => ?_)
  · have hc21d := decide_eq_false hc21
    first | rw [if_neg hc21] at h | rw [if_neg (ne_true_of_eq_false hc21d)] at h
    simp only [go_sem, seval, hr1, hr2, hr3, hr4, hr5, hr6, hr7, hr8, hr9, hr10, hc11d, hc12d, hc13d, hc14d, hc15d, hc16d, hc17d, hc18d, hc19, hc20d, hc21d]
    refine hZ _ (pp ?_)
    refine Wk_ret (pp ?_)
    cases h
    simp only [go_sem, seval, hr1, hr2, hr3, hr4, hr5, hr6, hr7, hr8, hr9, hr10, hc11d, hc12d, hc13d, hc14d, hc15d, hc16d, hc17d, hc18d, hc19, hc20d, hc21d]
    exact ⟨_, rfl, RokI.h, PureI.h⟩
  have hc21d := decide_eq_true hc21
  first | rw [if_pos hc21] at h | rw [if_pos hc21d] at h
  simp only [go_sem, seval, hr1, hr2, hr3, hr4, hr5, hr6, hr7, hr8, hr9, hr10, hc11d, hc12d, hc13d, hc14d, hc15d, hc16d, hc17d, hc18d, hc19, hc20d, hc21d]
  refine sw (RX_guard_bool rfl) (fun hc22 => ?_) (fun hc22 => ?_)
  · rw [if_neg (ne_true_of_eq_false hc22)] at h
    simp only [go_sem, seval, hr1, hr2, hr3, hr4, hr5, hr6, hr7, hr8, hr9, hr10, hc11d, hc12d, hc13d, hc14d, hc15d, hc16d, hc17d, hc18d, hc19, hc20d, hc21d, hc22]
    refine hZ _ (pp ?_)
    refine Wk_ret (pp ?_)
    cases h
    simp only [go_sem, seval, hr1, hr2, hr3, hr4, hr5, hr6, hr7, hr8, hr9, hr10, hc11d, hc12d, hc13d, hc14d, hc15d, hc16d, hc17d, hc18d, hc19, hc20d, hc21d, hc22]
    exact ⟨_, rfl, RokI.h, PureI.h⟩
  rw [if_pos hc22] at h
  simp only [go_sem, seval, hr1, hr2, hr3, hr4, hr5, hr6, hr7, hr8, hr9, hr10, hc11d, hc12d, hc13d, hc14d, hc15d, hc16d, hc17d, hc18d, hc19, hc20d, hc21d, hc22]
  refine RX_guard_dec rfl (fun hc23 => ?_) (fun hc23 => ?_)
  · have hc23d := decide_eq_true hc23
    first | rw [if_pos hc23] at h | rw [if_pos hc23d] at h
    simp only [go_sem, seval, hr1, hr2, hr3, hr4, hr5, hr6, hr7, hr8, hr9, hr10, hc11d, hc12d, hc13d, hc14d, hc15d, hc16d, hc17d, hc18d, hc19, hc20d, hc21d, hc22, hc23d]
    refine hZ _ (pp ?_)
    refine Wk_ret (pp ?_)
    cases h
    simp only [go_sem, seval, hr1, hr2, hr3, hr4, hr5, hr6, hr7, hr8, hr9, hr10, hc11d, hc12d, hc13d, hc14d, hc15d, hc16d, hc17d, hc18d, hc19, hc20d, hc21d, hc22, hc23d]
    exact ⟨_, rfl, RokI.h, PureI.h⟩
  have hc23d := decide_eq_false hc23
  first | rw [if_neg hc23] at h | rw [if_neg (ne_true_of_eq_false hc23d)] at h
  simp only [go_sem, seval, hr1, hr2, hr3, hr4, hr5, hr6, hr7, hr8, hr9, hr10, hc11d, hc12d, hc13d, hc14d, hc15d, hc16d, hc17d, hc18d, hc19, hc20d, hc21d, hc22, hc23d]
  refine hZ _ (pp ?_)
  refine Wk_ret (pp ?_)
  cases h
  simp only [go_sem, seval, hr1, hr2, hr3, hr4, hr5, hr6, hr7, hr8, hr9, hr10, hc11d, hc12d, hc13d, hc14d, hc15d, hc16d, hc17d, hc18d, hc19, hc20d, hc21d, hc22, hc23d]
  exact ⟨_, rfl, RokI.h, PureI.h⟩
def fs_law24_awake (N : Nat) : FnS := { own := [], pure := true, fn := fun cs => match cs with
  | [] =>  (law24_awake N ).map fun r => .val (.bool r)
  | _ => none }
attribute [go_sem] fs_law24_awake
theorem fs_law24_awake_ok (N : Nat) : FSOk Try.prog 9 (fs_law24_awake N) := by
  refine ⟨fun cs r h => ?_, fun h => by cases h⟩
  simp only [fs_law24_awake] at h
  split at h
  · simp only [Option.bind_eq_some_iff, Option.map_eq_some_iff] at h
    obtain ⟨r', hr, rfl⟩ := h
    exact ((w_law24_awake N  r' hr).args (LeL.nil))
  · cases h


set_option maxHeartbeats 40000000 in
theorem w_law24_value (N : Nat) (a0 : Value) (r : Bool) (h : law24_value N a0 = some r) : Con Try.prog 49 [] true [.agg (Value.row a0)] (.val (.bool r)) := by
  refine fun_ok4 (G := (glist [])) Try.func49 rfl (by decide) (by kernel_rfl) gn [] mix (Nat.le_of_ble_eq_true rfl) ?_
  simp only [Try.f49]
  unfold law24_value at h
  refine Wk_seq (Wk_regionZ fun Z hZ => ?_)
  simp only [go_sem, seval]
  refine hZ _ (pp ?_)
  refine Wk_seq (Wk_seq (Wk_regionZ fun Z hZ => ?_))
  simp only [go_sem, seval]
  refine hZ _ (pp ?_)
  refine Wk_block (Wk_real fun hreal2 => ?_)
  have hl1 := hreal2.cell 1 4 (by simp only [go_sem, seval, Bool.or_self, List.length_set, Int.natCast_zero, Int.cast_ofNat_Int]; rfl) rfl
  rw [List.length_map] at hl1
  refine Wk_range (fun (v2 : Nat) (b : Unit) => ⟨tab 34 (updT (updT deadT 1 (.pref 1 [] 0 0)) 3 (.val (.int .i64 ((v2 : Nat) : Int)))), (upd RZ 1 (.sl true none 5 (some 1) [Value.row a0]))⟩) () h ?_ ?_
  · refine weak_roots ?_ ?_ <;> repeat' first | exact xn | exact rn | refine xc ?_ ?_ | refine rc ?_ ?_ ?_ | rfl | simp only [go_sem, seval, Bool.or_self, List.length_set, Int.natCast_zero, Int.cast_ofNat_Int]
  rintro v2 ⟨⟩ hi3 h -
  rcases (drop_cases a0.L v2 hi3) with ⟨x5, hi3', hx4, hd6⟩ | ⟨hi3', _, hd6⟩
  · rw [hd6] at h
    simp only [law24_value_L1] at h
    have hw5 := wrap_succ hi3' hl1
    refine Wk_seq (Wk_seq (Wk_regionZ fun Z hZ => ?_))
    simp only [go_sem, seval, hx4, hi3', hw5]
    refine hZ _ (pp ?_)
    try simp only [Int.ofNat_lt, hi3', if_true, if_false] at h
    refine Wk_cond_t rfl (Wk_skip (pp ?_))
    refine Wk_seq (Wk_block (Wk_seq ?_))
    try rw [gx_nat hx4] at h
    refine Wk_regionZ fun Z hZ => ?_
    simp only [go_sem, seval, hx4, hi3', hw5]
    refine hZ _ (pp ?_)
    refine Wk_cond_dec rfl (fun hc7 => ?_) (fun hc7 => ?_)
    · have hc7d := decide_eq_true hc7
      first | rw [if_pos hc7] at h | rw [if_pos hc7d] at h
      refine Wk_seq (Wk_regionZ fun Z hZ => ?_)
      simp only [go_sem, seval, hx4, hi3', hw5, hc7d]
      refine hZ _ (pp ?_)
      refine Wk_ret (pp ?_)
      cases h
      simp only [go_sem, seval, hx4, hi3', hw5, hc7d]
      exact ⟨_, rfl, RokI.h, PureI.h⟩
    have hc7d := decide_eq_false hc7
    first | rw [if_neg hc7] at h | rw [if_neg (ne_true_of_eq_false hc7d)] at h
    refine Wk_skip (pp ?_)
    refine Wk_regionZ fun Z hZ => ?_
    simp only [go_sem, seval, hx4, hi3', hw5, hc7d]
    refine hZ _ (pp ?_)
    first | refine ⟨(), ?_, h⟩ | refine ⟨hi3', (), ?_, h⟩
    refine weak_roots ?_ ?_ <;> repeat' first | exact xn | exact rn | refine xc ?_ ?_ | refine rc ?_ ?_ ?_ | rfl | simp only [go_sem, seval, Bool.or_self, List.length_set, Int.natCast_zero, Int.cast_ofNat_Int, hx4, hi3', hw5, hc7d]
  rw [hd6] at h
  simp only [law24_value_L1] at h
  refine Wk_seq (Wk_seq (Wk_regionZ fun Z hZ => ?_))
  simp only [go_sem, seval, hi3']
  refine hZ _ (pp ?_)
  try simp only [Int.ofNat_lt, hi3', if_true, if_false] at h
  refine Wk_cond_f rfl (Wk_exit (pp ?_))
  unfold law24_value_J1 at h
  refine Wk_seq (Wk_regionZ fun Z hZ => ?_)
  simp only [go_sem, seval, hi3']
  refine sw (RX_guard_dec rfl) (fun hc8 => ?_) (fun hc8 => ?_)
  · have hc8d := decide_eq_false hc8
    first | rw [if_neg hc8] at h | rw [if_neg (ne_true_of_eq_false hc8d)] at h
    simp only [go_sem, seval, hi3', hc8d]
    refine hZ _ (pp ?_)
    refine Wk_ret (pp ?_)
    cases h
    simp only [go_sem, seval, hi3', hc8d]
    exact ⟨_, rfl, RokI.h, PureI.h⟩
  have hc8d := decide_eq_true hc8
  first | rw [if_pos hc8] at h | rw [if_pos hc8d] at h
  simp only [go_sem, seval, hi3', hc8d]
  refine RX_guard_dec rfl (fun hc9 => ?_) (fun hc9 => ?_)
  · have hc9d := decide_eq_true hc9
    first | rw [if_pos hc9] at h | rw [if_pos hc9d] at h
    simp only [go_sem, seval, hi3', hc8d, hc9d]
    refine hZ _ (pp ?_)
    refine Wk_ret (pp ?_)
    cases h
    simp only [go_sem, seval, hi3', hc8d, hc9d]
    exact ⟨_, rfl, RokI.h, PureI.h⟩
  have hc9d := decide_eq_false hc9
  first | rw [if_neg hc9] at h | rw [if_neg (ne_true_of_eq_false hc9d)] at h
  simp only [go_sem, seval, hi3', hc8d, hc9d]
  refine hZ _ (pp ?_)
  refine Wk_ret (pp ?_)
  cases h
  simp only [go_sem, seval, hi3', hc8d, hc9d]
  exact ⟨_, rfl, RokI.h, PureI.h⟩
def fs_law24_value (N : Nat) : FnS := { own := [], pure := true, fn := fun cs => match cs with
  | [c0] => (Value.decA c0).bind fun qc0 => (law24_value N qc0).map fun r => .val (.bool r)
  | _ => none }
attribute [go_sem] fs_law24_value
theorem fs_law24_value_ok (N : Nat) : FSOk Try.prog 49 (fs_law24_value N) := by
  refine ⟨fun cs r h => ?_, fun h => by cases h⟩
  simp only [fs_law24_value] at h
  split at h
  · simp only [Option.bind_eq_some_iff, Option.map_eq_some_iff] at h
    obtain ⟨q0, h0, r', hr, rfl⟩ := h
    exact ((w_law24_value N q0 r' hr).args (LeL.cons (Value.decA_le h0) (LeL.nil)))
  · cases h


noncomputable def G_law24_request (N d f : Nat) : Option FnS := glist [(17, 49, fs_law24_value N)] d f
attribute [go_sem] G_law24_request
set_option maxHeartbeats 40000000 in
theorem w_law24_request (N : Nat) (a0 : Request) (r : Bool) (h : law24_request N a0 = some r) : Con Try.prog 11 [] true [.agg (Request.row a0)] (.val (.bool r)) := by
  refine fun_ok4 (G := (G_law24_request N)) Try.func11 rfl (by decide) (by kernel_rfl) (gc 17 (fs_law24_value_ok N) gn) [] mix (Nat.le_of_ble_eq_true rfl) ?_
  simp only [Try.f11]
  unfold law24_request at h
  refine Wk_seq (Wk_regionZ fun Z hZ => ?_)
  simp only [go_sem, seval]
  refine hZ _ (pp ?_)
  refine Wk_seq (Wk_seq (Wk_regionZ fun Z hZ => ?_))
  simp only [go_sem, seval]
  refine hZ _ (pp ?_)
  refine Wk_block (Wk_real fun hreal2 => ?_)
  have hl1 := hreal2.cell 1 6 (by simp only [go_sem, seval, Bool.or_self, List.length_set, Int.natCast_zero, Int.cast_ofNat_Int]; rfl) rfl
  rw [List.length_map] at hl1
  refine Wk_range (fun (v2 : Nat) (b : Unit) => ⟨tab 86 (updT (updT deadT 1 (.pref 1 [] 0 0)) 3 (.val (.int .i64 ((v2 : Nat) : Int)))), (upd RZ 1 (.sl true none 9 (some 1) [Request.row a0]))⟩) () h ?_ ?_
  · refine weak_roots ?_ ?_ <;> repeat' first | exact xn | exact rn | refine xc ?_ ?_ | refine rc ?_ ?_ ?_ | rfl | simp only [go_sem, seval, Bool.or_self, List.length_set, Int.natCast_zero, Int.cast_ofNat_Int]
  rintro v2 ⟨⟩ hi3 h -
  rcases (drop_cases a0.Args v2 hi3) with ⟨x5, hi3', hx4, hd6⟩ | ⟨hi3', _, hd6⟩
  · rw [hd6] at h
    simp only [law24_request_L1] at h
    have hw5 := wrap_succ hi3' hl1
    refine Wk_seq (Wk_seq (Wk_regionZ fun Z hZ => ?_))
    simp only [go_sem, seval, hx4, hi3', hw5]
    refine hZ _ (pp ?_)
    try simp only [Int.ofNat_lt, hi3', if_true, if_false] at h
    refine Wk_cond_t rfl (Wk_skip (pp ?_))
    refine Wk_seq (Wk_block (Wk_seq ?_))
    try rw [gx_nat hx4] at h
    obtain ⟨r8, hr7, h⟩ := Option.bind_eq_some_iff.1 h
    refine Wk_regionZ fun Z hZ => ?_
    simp only [go_sem, seval, hx4, hi3', hw5, hr7]
    refine hZ _ (pp ?_)
    refine Wk_cond_nbool rfl (fun hc8 => ?_) (fun hc8 => ?_)
    · rw [if_neg (ne_true_of_eq_false hc8)] at h
      refine Wk_seq (Wk_regionZ fun Z hZ => ?_)
      simp only [go_sem, seval, hx4, hi3', hw5, hr7, hc8]
      refine hZ _ (pp ?_)
      refine Wk_ret (pp ?_)
      cases h
      simp only [go_sem, seval, hx4, hi3', hw5, hr7, hc8]
      exact ⟨_, rfl, RokI.h, PureI.h⟩
    rw [if_pos hc8] at h
    refine Wk_skip (pp ?_)
    refine Wk_regionZ fun Z hZ => ?_
    simp only [go_sem, seval, hx4, hi3', hw5, hr7, hc8]
    refine hZ _ (pp ?_)
    first | refine ⟨(), ?_, h⟩ | refine ⟨hi3', (), ?_, h⟩
    refine weak_roots ?_ ?_ <;> repeat' first | exact xn | exact rn | refine xc ?_ ?_ | refine rc ?_ ?_ ?_ | rfl | simp only [go_sem, seval, Bool.or_self, List.length_set, Int.natCast_zero, Int.cast_ofNat_Int, hx4, hi3', hw5, hr7, hc8]
  rw [hd6] at h
  simp only [law24_request_L1] at h
  refine Wk_seq (Wk_seq (Wk_regionZ fun Z hZ => ?_))
  simp only [go_sem, seval, hi3']
  refine hZ _ (pp ?_)
  try simp only [Int.ofNat_lt, hi3', if_true, if_false] at h
  refine Wk_cond_f rfl (Wk_exit (pp ?_))
  unfold law24_request_J3 at h
  refine Wk_seq (Wk_seq (Wk_regionZ fun Z hZ => ?_))
  simp only [go_sem, seval, hi3']
  refine hZ _ (pp ?_)
  refine Wk_block (Wk_real fun hreal10 => ?_)
  have hl9 := hreal10.cell 1 7 (by simp only [go_sem, seval, Bool.or_self, List.length_set, Int.natCast_zero, Int.cast_ofNat_Int, hi3']; rfl) rfl
  rw [List.length_map] at hl9
  refine Wk_range (fun (v10 : Nat) (b : Unit) => ⟨tab 86 (updT (updT deadT 1 (.pref 1 [] 0 0)) 4 (.val (.int .i64 ((v10 : Nat) : Int)))), (upd RZ 1 (.sl true none 9 (some 1) [Request.row a0]))⟩) () h ?_ ?_
  · refine weak_roots ?_ ?_ <;> repeat' first | exact xn | exact rn | refine xc ?_ ?_ | refine rc ?_ ?_ ?_ | rfl | simp only [go_sem, seval, Bool.or_self, List.length_set, Int.natCast_zero, Int.cast_ofNat_Int, hi3']
  rintro v10 ⟨⟩ hi11 h -
  rcases (drop_cases a0.Chain v10 hi11) with ⟨x13, hi11', hx12, hd14⟩ | ⟨hi11', _, hd14⟩
  · rw [hd14] at h
    simp only [law24_request_L2] at h
    have hw13 := wrap_succ hi11' hl9
    refine Wk_seq (Wk_seq (Wk_regionZ fun Z hZ => ?_))
    simp only [go_sem, seval, hi3', hx12, hi11', hw13]
    refine hZ _ (pp ?_)
    try simp only [Int.ofNat_lt, hi3', hi11', if_true, if_false] at h
    refine Wk_cond_t rfl (Wk_skip (pp ?_))
    refine Wk_seq (Wk_block ?_)
    apply Wk_join1 (fun (c17 : Bool) => ⟨tab 86 (updT (updT (updT deadT 1 (.pref 1 [] 0 0)) 4 (.val (.int .i64 ((v10 : Nat) : Int)))) 43 (.val (.bool c17))), (upd RZ 1 (.sl true none 9 (some 1) [Request.row a0]))⟩)
    · intro hJ15
      try rw [gx_nat hx12] at h
      refine Wk_regionZ fun Z hZ => ?_
      simp only [go_sem, seval, hi3', hx12, hi11', hw13]
      refine RX_guard_dec rfl (fun hc16 => ?_) (fun hc16 => ?_)
      · have hc16d := decide_eq_true hc16
        first | rw [if_pos hc16] at h | rw [if_pos hc16d] at h
        simp only [go_sem, seval, hi3', hx12, hi11', hw13, hc16d]
        refine hZ _ (pp ?_)
        refine hJ15 _ true ?_ h
        refine weak_roots ?_ ?_ <;> repeat' first | exact xn | exact rn | refine xc ?_ ?_ | refine rc ?_ ?_ ?_ | rfl | simp only [go_sem, seval, Bool.or_self, List.length_set, Int.natCast_zero, Int.cast_ofNat_Int, hi3', hx12, hi11', hw13, hc16d]
      have hc16d := decide_eq_false hc16
      first | rw [if_neg hc16] at h | rw [if_neg (ne_true_of_eq_false hc16d)] at h
      try rw [gx_nat hx12] at h
      simp only [go_sem, seval, hi3', hx12, hi11', hw13, hc16d]
      refine hZ _ (pp ?_)
      refine hJ15 _ (decide (100 < ((x13.Key.size : Nat) : Int))) ?_ h
      refine weak_roots ?_ ?_ <;> repeat' first | exact xn | exact rn | refine xc ?_ ?_ | refine rc ?_ ?_ ?_ | rfl | simp only [go_sem, seval, Bool.or_self, List.length_set, Int.natCast_zero, Int.cast_ofNat_Int, hi3', hx12, hi11', hw13, hc16d]
    intro c17 h
    unfold law24_request_J1 at h
    refine Wk_cond_bool rfl (fun hc17 => ?_) (fun hc17 => ?_)
    · rw [if_pos hc17] at h
      refine Wk_seq (Wk_regionZ fun Z hZ => ?_)
      simp only [go_sem, seval, hi3', hx12, hi11', hw13, hc17]
      refine hZ _ (pp ?_)
      refine Wk_ret (pp ?_)
      cases h
      simp only [go_sem, seval, hi3', hx12, hi11', hw13, hc17]
      exact ⟨_, rfl, RokI.h, PureI.h⟩
    rw [if_neg (ne_true_of_eq_false hc17)] at h
    refine Wk_skip (pp ?_)
    refine Wk_regionZ fun Z hZ => ?_
    simp only [go_sem, seval, hi3', hx12, hi11', hw13, hc17]
    refine hZ _ (pp ?_)
    first | refine ⟨(), ?_, h⟩ | refine ⟨hi11', (), ?_, h⟩
    refine weak_roots ?_ ?_ <;> repeat' first | exact xn | exact rn | refine xc ?_ ?_ | refine rc ?_ ?_ ?_ | rfl | simp only [go_sem, seval, Bool.or_self, List.length_set, Int.natCast_zero, Int.cast_ofNat_Int, hi3', hx12, hi11', hw13, hc17]
  rw [hd14] at h
  simp only [law24_request_L2] at h
  refine Wk_seq (Wk_seq (Wk_regionZ fun Z hZ => ?_))
  simp only [go_sem, seval, hi3', hi11']
  refine hZ _ (pp ?_)
  try simp only [Int.ofNat_lt, hi3', hi11', if_true, if_false] at h
  refine Wk_cond_f rfl (Wk_exit (pp ?_))
  unfold law24_request_J2 at h
  refine Wk_seq (Wk_regionZ fun Z hZ => ?_)
  simp only [go_sem, seval, hi3', hi11']
  refine sw (RX_guard_dec rfl) (fun hc18 => ?_) (fun hc18 => ?_)
  · have hc18d := decide_eq_false hc18
    first | rw [if_neg hc18] at h | rw [if_neg (ne_true_of_eq_false hc18d)] at h
    simp only [go_sem, seval, hi3', hi11', hc18d]
    refine hZ _ (pp ?_)
    refine Wk_ret (pp ?_)
    cases h
    simp only [go_sem, seval, hi3', hi11', hc18d]
    exact ⟨_, rfl, RokI.h, PureI.h⟩
  have hc18d := decide_eq_true hc18
  first | rw [if_pos hc18] at h | rw [if_pos hc18d] at h
  simp only [go_sem, seval, hi3', hi11', hc18d]
  refine sw (RX_guard_dec rfl) (fun hc19 => ?_) (fun hc19 => ?_)
  · have hc19d := decide_eq_false hc19
    first | rw [if_neg hc19] at h | rw [if_neg (ne_true_of_eq_false hc19d)] at h
    simp only [go_sem, seval, hi3', hi11', hc18d, hc19d]
    refine hZ _ (pp ?_)
    refine Wk_ret (pp ?_)
    cases h
    simp only [go_sem, seval, hi3', hi11', hc18d, hc19d]
    exact ⟨_, rfl, RokI.h, PureI.h⟩
  have hc19d := decide_eq_true hc19
  first | rw [if_pos hc19] at h | rw [if_pos hc19d] at h
  simp only [go_sem, seval, hi3', hi11', hc18d, hc19d]
  refine sw (RX_guard_dec rfl) (fun hc20 => ?_) (fun hc20 => ?_)
  · have hc20d := decide_eq_false hc20
    first | rw [if_neg hc20] at h | rw [if_neg (ne_true_of_eq_false hc20d)] at h
    simp only [go_sem, seval, hi3', hi11', hc18d, hc19d, hc20d]
    refine hZ _ (pp ?_)
    refine Wk_ret (pp ?_)
    cases h
    simp only [go_sem, seval, hi3', hi11', hc18d, hc19d, hc20d]
    exact ⟨_, rfl, RokI.h, PureI.h⟩
  have hc20d := decide_eq_true hc20
  first | rw [if_pos hc20] at h | rw [if_pos hc20d] at h
  simp only [go_sem, seval, hi3', hi11', hc18d, hc19d, hc20d]
  refine sw (RX_guard_dec rfl) (fun hc21 => ?_) (fun hc21 => ?_)
  · have hc21d := decide_eq_false hc21
    first | rw [if_neg hc21] at h | rw [if_neg (ne_true_of_eq_false hc21d)] at h
    simp only [go_sem, seval, hi3', hi11', hc18d, hc19d, hc20d, hc21d]
    refine hZ _ (pp ?_)
    refine Wk_ret (pp ?_)
    cases h
    simp only [go_sem, seval, hi3', hi11', hc18d, hc19d, hc20d, hc21d]
    exact ⟨_, rfl, RokI.h, PureI.h⟩
  have hc21d := decide_eq_true hc21
  first | rw [if_pos hc21] at h | rw [if_pos hc21d] at h
  simp only [go_sem, seval, hi3', hi11', hc18d, hc19d, hc20d, hc21d]
  refine sw (RX_guard_dec rfl) (fun hc22 => ?_) (fun hc22 => ?_)
  · have hc22d := decide_eq_false hc22
    first | rw [if_neg hc22] at h | rw [if_neg (ne_true_of_eq_false hc22d)] at h
    simp only [go_sem, seval, hi3', hi11', hc18d, hc19d, hc20d, hc21d, hc22d]
    refine hZ _ (pp ?_)
    refine Wk_ret (pp ?_)
    cases h
    simp only [go_sem, seval, hi3', hi11', hc18d, hc19d, hc20d, hc21d, hc22d]
    exact ⟨_, rfl, RokI.h, PureI.h⟩
  have hc22d := decide_eq_true hc22
  first | rw [if_pos hc22] at h | rw [if_pos hc22d] at h
  simp only [go_sem, seval, hi3', hi11', hc18d, hc19d, hc20d, hc21d, hc22d]
  refine RX_guard_dec rfl (fun hc23 => ?_) (fun hc23 => ?_)
  · have hc23d := decide_eq_true hc23
    first | rw [if_pos hc23] at h | rw [if_pos hc23d] at h
    simp only [go_sem, seval, hi3', hi11', hc18d, hc19d, hc20d, hc21d, hc22d, hc23d]
    refine hZ _ (pp ?_)
    refine Wk_ret (pp ?_)
    cases h
    simp only [go_sem, seval, hi3', hi11', hc18d, hc19d, hc20d, hc21d, hc22d, hc23d]
    exact ⟨_, rfl, RokI.h, PureI.h⟩
  have hc23d := decide_eq_false hc23
  first | rw [if_neg hc23] at h | rw [if_neg (ne_true_of_eq_false hc23d)] at h
  simp only [go_sem, seval, hi3', hi11', hc18d, hc19d, hc20d, hc21d, hc22d, hc23d]
  refine hZ _ (pp ?_)
  refine Wk_ret (pp ?_)
  cases h
  simp only [go_sem, seval, hi3', hi11', hc18d, hc19d, hc20d, hc21d, hc22d, hc23d]
  exact ⟨_, rfl, RokI.h, PureI.h⟩
def fs_law24_request (N : Nat) : FnS := { own := [], pure := true, fn := fun cs => match cs with
  | [c0] => (Request.decA c0).bind fun qc0 => (law24_request N qc0).map fun r => .val (.bool r)
  | _ => none }
attribute [go_sem] fs_law24_request
theorem fs_law24_request_ok (N : Nat) : FSOk Try.prog 11 (fs_law24_request N) := by
  refine ⟨fun cs r h => ?_, fun h => by cases h⟩
  simp only [fs_law24_request] at h
  split at h
  · simp only [Option.bind_eq_some_iff, Option.map_eq_some_iff] at h
    obtain ⟨q0, h0, r', hr, rfl⟩ := h
    exact ((w_law24_request N q0 r' hr).args (LeL.cons (Request.decA_le h0) (LeL.nil)))
  · cases h


noncomputable def G_law24_reply (N d f : Nat) : Option FnS := glist [(16, 49, fs_law24_value N)] d f
attribute [go_sem] G_law24_reply
set_option maxHeartbeats 40000000 in
theorem w_law24_reply (N : Nat) (a0 : Reply) (r : Bool) (h : law24_reply N a0 = some r) : Con Try.prog 12 [] true [.agg (Reply.row a0)] (.val (.bool r)) := by
  refine fun_ok4 (G := (G_law24_reply N)) Try.func12 rfl (by decide) (by kernel_rfl) (gc 16 (fs_law24_value_ok N) gn) [] mix (Nat.le_of_ble_eq_true rfl) ?_
  simp only [Try.f12]
  unfold law24_reply at h
  refine Wk_seq (Wk_regionZ fun Z hZ => ?_)
  simp only [go_sem, seval]
  refine hZ _ (pp ?_)
  refine Wk_seq (Wk_regionZ fun Z hZ => ?_)
  simp only [go_sem, seval]
  refine sw (RX_guard_dec rfl) (fun hc1 => ?_) (fun hc1 => ?_)
  · have hc1d := decide_eq_false hc1
    first | rw [if_neg hc1] at h | rw [if_neg (ne_true_of_eq_false hc1d)] at h
    simp only [go_sem, seval, hc1d]
    refine hZ _ (pp ?_)
    refine Wk_ret (pp ?_)
    cases h
    simp only [go_sem, seval, hc1d]
    exact ⟨_, rfl, RokI.h, PureI.h⟩
  have hc1d := decide_eq_true hc1
  first | rw [if_pos hc1] at h | rw [if_pos hc1d] at h
  simp only [go_sem, seval, hc1d]
  refine RX_guard_dec rfl (fun hc2 => ?_) (fun hc2 => ?_)
  · have hc2d := decide_eq_true hc2
    first | rw [if_pos hc2] at h | rw [if_pos hc2d] at h
    obtain ⟨r1, hr3, h⟩ := Option.bind_eq_some_iff.1 h
    simp only [go_sem, seval, hc1d, hc2d, hr3]
    refine hZ _ (pp ?_)
    refine Wk_ret (pp ?_)
    cases h
    simp only [go_sem, seval, hc1d, hc2d, hr3]
    exact ⟨_, rfl, RokI.h, PureI.h⟩
  have hc2d := decide_eq_false hc2
  first | rw [if_neg hc2] at h | rw [if_neg (ne_true_of_eq_false hc2d)] at h
  simp only [go_sem, seval, hc1d, hc2d]
  refine hZ _ (pp ?_)
  refine Wk_ret (pp ?_)
  cases h
  simp only [go_sem, seval, hc1d, hc2d]
  exact ⟨_, rfl, RokI.h, PureI.h⟩
def fs_law24_reply (N : Nat) : FnS := { own := [], pure := true, fn := fun cs => match cs with
  | [c0] => (Reply.decA c0).bind fun qc0 => (law24_reply N qc0).map fun r => .val (.bool r)
  | _ => none }
attribute [go_sem] fs_law24_reply
theorem fs_law24_reply_ok (N : Nat) : FSOk Try.prog 12 (fs_law24_reply N) := by
  refine ⟨fun cs r h => ?_, fun h => by cases h⟩
  simp only [fs_law24_reply] at h
  split at h
  · simp only [Option.bind_eq_some_iff, Option.map_eq_some_iff] at h
    obtain ⟨q0, h0, r', hr, rfl⟩ := h
    exact ((w_law24_reply N q0 r' hr).args (LeL.cons (Reply.decA_le h0) (LeL.nil)))
  · cases h


noncomputable def G_law24_Small (N d f : Nat) : Option FnS := glist [(17, 11, fs_law24_request N), (26, 11, fs_law24_request N), (36, 12, fs_law24_reply N)] d f
attribute [go_sem] G_law24_Small
set_option maxHeartbeats 40000000 in
theorem w_law24_Small (N : Nat) (a0 : Actor) (r : Bool) (h : law24_Small N a0 = some r) : Con Try.prog 10 [] true [.agg (Actor.row a0)] (.val (.bool r)) := by
  refine fun_ok4 (G := (G_law24_Small N)) Try.func10 rfl (by decide) (by kernel_rfl) (gc 17 (fs_law24_request_ok N) (gc 26 (fs_law24_request_ok N) (gc 36 (fs_law24_reply_ok N) gn))) [] mix (Nat.le_of_ble_eq_true rfl) ?_
  simp only [Try.f10]
  unfold law24_Small at h
  refine Wk_seq (Wk_regionZ fun Z hZ => ?_)
  simp only [go_sem, seval]
  refine hZ _ (pp ?_)
  refine Wk_seq (Wk_seq (Wk_regionZ fun Z hZ => ?_))
  simp only [go_sem, seval]
  refine hZ _ (pp ?_)
  refine Wk_block (Wk_real fun hreal2 => ?_)
  have hl1 := hreal2.cell 1 3 (by simp only [go_sem, seval, Bool.or_self, List.length_set, Int.natCast_zero, Int.cast_ofNat_Int]; rfl) rfl
  rw [List.length_map] at hl1
  refine Wk_range (fun (v2 : Nat) (b : Unit) => ⟨tab 57 (updT (updT deadT 1 (.pref 1 [] 0 0)) 3 (.val (.int .i64 ((v2 : Nat) : Int)))), (upd RZ 1 (.sl true none 4 (some 1) [Actor.row a0]))⟩) () h ?_ ?_
  · refine weak_roots ?_ ?_ <;> repeat' first | exact xn | exact rn | refine xc ?_ ?_ | refine rc ?_ ?_ ?_ | rfl | simp only [go_sem, seval, Bool.or_self, List.length_set, Int.natCast_zero, Int.cast_ofNat_Int]
  rintro v2 ⟨⟩ hi3 h -
  rcases (drop_cases a0.Stack v2 hi3).symm with ⟨hi3', _, hd6⟩ | ⟨x5, hi3', hx4, hd6⟩
  · rw [hd6] at h
    simp only [law24_Small_L1] at h
    refine Wk_seq (Wk_seq (Wk_regionZ fun Z hZ => ?_))
    simp only [go_sem, seval, hi3']
    refine hZ _ (pp ?_)
    try simp only [Int.ofNat_lt, hi3', if_true, if_false] at h
    refine Wk_cond_f rfl (Wk_exit (pp ?_))
    unfold law24_Small_J2 at h
    refine Wk_seq (Wk_regionZ fun Z hZ => ?_)
    simp only [go_sem, seval, hi3']
    refine sw (RX_guard_dec rfl) (fun hc14 => ?_) (fun hc14 => ?_)
    · have hc14d := decide_eq_false hc14
      first | rw [if_neg hc14] at h | rw [if_neg (ne_true_of_eq_false hc14d)] at h
      simp only [go_sem, seval, hi3', hc14d]
      refine hZ _ (pp ?_)
      refine Wk_ret (pp ?_)
      cases h
      simp only [go_sem, seval, hi3', hc14d]
      exact ⟨_, rfl, RokI.h, PureI.h⟩
    have hc14d := decide_eq_true hc14
    first | rw [if_pos hc14] at h | rw [if_pos hc14d] at h
    simp only [go_sem, seval, hi3', hc14d]
    refine RX_guard_dec rfl (fun hc15 => ?_) (fun hc15 => ?_)
    · have hc15d := decide_eq_true hc15
      first | rw [if_pos hc15] at h | rw [if_pos hc15d] at h
      simp only [go_sem, seval, hi3', hc14d, hc15d]
      refine hZ _ (pp ?_)
      refine Wk_ret (pp ?_)
      cases h
      simp only [go_sem, seval, hi3', hc14d, hc15d]
      exact ⟨_, rfl, RokI.h, PureI.h⟩
    have hc15d := decide_eq_false hc15
    first | rw [if_neg hc15] at h | rw [if_neg (ne_true_of_eq_false hc15d)] at h
    simp only [go_sem, seval, hi3', hc14d, hc15d]
    refine hZ _ (pp ?_)
    refine Wk_ret (pp ?_)
    cases h
    simp only [go_sem, seval, hi3', hc14d, hc15d]
    exact ⟨_, rfl, RokI.h, PureI.h⟩
  rw [hd6] at h
  simp only [law24_Small_L1] at h
  have hw5 := wrap_succ hi3' hl1
  refine Wk_seq (Wk_seq (Wk_regionZ fun Z hZ => ?_))
  simp only [go_sem, seval, hx4, hi3', hw5]
  refine hZ _ (pp ?_)
  try simp only [Int.ofNat_lt, hi3', if_true, if_false] at h
  refine Wk_cond_t rfl (Wk_skip (pp ?_))
  refine Wk_seq (Wk_block ?_)
  apply Wk_join1 (fun (c15 : Bool) => ⟨tab 57 (updT (updT (updT deadT 1 (.pref 1 [] 0 0)) 3 (.val (.int .i64 ((v2 : Nat) : Int)))) 38 (.val (.bool c15))), (upd RZ 1 (.sl true none 4 (some 1) [Actor.row a0]))⟩)
  · intro hJ7
    try rw [gx_nat hx4] at h
    obtain ⟨r16, hr8, h⟩ := Option.bind_eq_some_iff.1 h
    refine Wk_regionZ fun Z hZ => ?_
    simp only [go_sem, seval, hx4, hi3', hw5, hr8]
    refine RX_guard_nbool rfl (fun hc9 => ?_) (fun hc9 => ?_)
    · rw [if_neg (ne_true_of_eq_false hc9)] at h
      simp only [go_sem, seval, hx4, hi3', hw5, hr8, hc9]
      refine hZ _ (pp ?_)
      refine hJ7 _ true ?_ h
      refine weak_roots ?_ ?_ <;> repeat' first | exact xn | exact rn | refine xc ?_ ?_ | refine rc ?_ ?_ ?_ | rfl | simp only [go_sem, seval, Bool.or_self, List.length_set, Int.natCast_zero, Int.cast_ofNat_Int, hx4, hi3', hw5, hr8, hc9]
    rw [if_pos hc9] at h
    try rw [gx_nat hx4] at h
    obtain ⟨r17, hr10, h⟩ := Option.bind_eq_some_iff.1 h
    simp only [go_sem, seval, hx4, hi3', hw5, hr8, hc9, hr10]
    refine RX_guard_nbool rfl (fun hc11 => ?_) (fun hc11 => ?_)
    · rw [if_neg (ne_true_of_eq_false hc11)] at h
      simp only [go_sem, seval, hx4, hi3', hw5, hr8, hc9, hr10, hc11]
      refine hZ _ (pp ?_)
      refine hJ7 _ true ?_ h
      refine weak_roots ?_ ?_ <;> repeat' first | exact xn | exact rn | refine xc ?_ ?_ | refine rc ?_ ?_ ?_ | rfl | simp only [go_sem, seval, Bool.or_self, List.length_set, Int.natCast_zero, Int.cast_ofNat_Int, hx4, hi3', hw5, hr8, hc9, hr10, hc11]
    rw [if_pos hc11] at h
    try rw [gx_nat hx4] at h
    obtain ⟨r18, hr12, h⟩ := Option.bind_eq_some_iff.1 h
    simp only [go_sem, seval, hx4, hi3', hw5, hr8, hc9, hr10, hc11, hr12]
    refine hZ _ (pp ?_)
    refine hJ7 _ (!r18) ?_ h
    refine weak_roots ?_ ?_ <;> repeat' first | exact xn | exact rn | refine xc ?_ ?_ | refine rc ?_ ?_ ?_ | rfl | simp only [go_sem, seval, Bool.or_self, List.length_set, Int.natCast_zero, Int.cast_ofNat_Int, hx4, hi3', hw5, hr8, hc9, hr10, hc11, hr12]
  intro c15 h
  unfold law24_Small_J1 at h
  refine Wk_cond_bool rfl (fun hc13 => ?_) (fun hc13 => ?_)
  · rw [if_pos hc13] at h
    refine Wk_seq (Wk_regionZ fun Z hZ => ?_)
    simp only [go_sem, seval, hx4, hi3', hw5, hc13]
    refine hZ _ (pp ?_)
    refine Wk_ret (pp ?_)
    cases h
    simp only [go_sem, seval, hx4, hi3', hw5, hc13]
    exact ⟨_, rfl, RokI.h, PureI.h⟩
  rw [if_neg (ne_true_of_eq_false hc13)] at h
  refine Wk_skip (pp ?_)
  refine Wk_regionZ fun Z hZ => ?_
  simp only [go_sem, seval, hx4, hi3', hw5, hc13]
  refine hZ _ (pp ?_)
  first | refine ⟨(), ?_, h⟩ | refine ⟨hi3', (), ?_, h⟩
  refine weak_roots ?_ ?_ <;> repeat' first | exact xn | exact rn | refine xc ?_ ?_ | refine rc ?_ ?_ ?_ | rfl | simp only [go_sem, seval, Bool.or_self, List.length_set, Int.natCast_zero, Int.cast_ofNat_Int, hx4, hi3', hw5, hc13]
def fs_law24_Small (N : Nat) : FnS := { own := [], pure := true, fn := fun cs => match cs with
  | [c0] => (Actor.decA c0).bind fun qc0 => (law24_Small N qc0).map fun r => .val (.bool r)
  | _ => none }
attribute [go_sem] fs_law24_Small
theorem fs_law24_Small_ok (N : Nat) : FSOk Try.prog 10 (fs_law24_Small N) := by
  refine ⟨fun cs r h => ?_, fun h => by cases h⟩
  simp only [fs_law24_Small] at h
  split at h
  · simp only [Option.bind_eq_some_iff, Option.map_eq_some_iff] at h
    obtain ⟨q0, h0, r', hr, rfl⟩ := h
    exact ((w_law24_Small N q0 r' hr).args (LeL.cons (Actor.decA_le h0) (LeL.nil)))
  · cases h


set_option maxHeartbeats 40000000 in
theorem w_ref14_ValidRef (N : Nat) (a0 : Ref) (r : Bool) (h : ref14_ValidRef N a0 = some r) : Con Try.prog 46 [] true [.agg [.val (.string a0.Type_), .val (.string a0.Key)]] (.val (.bool r)) := by
  refine fun_ok4 (G := (glist [])) Try.func46 rfl (by decide) (by kernel_rfl) gn [] mix (Nat.le_of_ble_eq_true rfl) ?_
  simp only [Try.f46]
  unfold ref14_ValidRef at h
  refine Wk_seq (Wk_regionZ fun Z hZ => ?_)
  simp only [go_sem, seval]
  refine hZ _ (pp ?_)
  refine Wk_seq (Wk_regionZ fun Z hZ => ?_)
  simp only [go_sem, seval]
  refine sw (RX_guard_dec rfl) (fun hc1 => ?_) (fun hc1 => ?_)
  · have hc1d := decide_eq_false hc1
    first | rw [if_neg hc1] at h | rw [if_neg (ne_true_of_eq_false hc1d)] at h
    simp only [go_sem, seval, hc1d]
    refine hZ _ (pp ?_)
    refine Wk_ret (pp ?_)
    cases h
    simp only [go_sem, seval, hc1d]
    exact ⟨_, rfl, RokI.h, PureI.h⟩
  have hc1d := decide_eq_true hc1
  first | rw [if_pos hc1] at h | rw [if_pos hc1d] at h
  simp only [go_sem, seval, hc1d]
  refine RX_guard_dec rfl (fun hc2 => ?_) (fun hc2 => ?_)
  · have hc2d := decide_eq_true hc2
    first | rw [if_pos hc2] at h | rw [if_pos hc2d] at h
    simp only [go_sem, seval, hc1d, hc2d]
    refine hZ _ (pp ?_)
    refine Wk_ret (pp ?_)
    cases h
    simp only [go_sem, seval, hc1d, hc2d]
    exact ⟨_, rfl, RokI.h, PureI.h⟩
  have hc2d := decide_eq_false hc2
  first | rw [if_neg hc2] at h | rw [if_neg (ne_true_of_eq_false hc2d)] at h
  simp only [go_sem, seval, hc1d, hc2d]
  refine hZ _ (pp ?_)
  refine Wk_ret (pp ?_)
  cases h
  simp only [go_sem, seval, hc1d, hc2d]
  exact ⟨_, rfl, RokI.h, PureI.h⟩
def fs_ref14_ValidRef (N : Nat) : FnS := { own := [], pure := true, fn := fun cs => match cs with
  | [c0] => (Ref.decA c0).bind fun qc0 => (ref14_ValidRef N qc0).map fun r => .val (.bool r)
  | _ => none }
attribute [go_sem] fs_ref14_ValidRef
theorem fs_ref14_ValidRef_ok (N : Nat) : FSOk Try.prog 46 (fs_ref14_ValidRef N) := by
  refine ⟨fun cs r h => ?_, fun h => by cases h⟩
  simp only [fs_ref14_ValidRef] at h
  split at h
  · simp only [Option.bind_eq_some_iff, Option.map_eq_some_iff] at h
    obtain ⟨q0, h0, r', hr, rfl⟩ := h
    exact ((w_ref14_ValidRef N q0 r' hr).args (LeL.cons (Ref.decA_le h0) (LeL.nil)))
  · cases h


set_option maxHeartbeats 40000000 in
theorem w_ref24_ValidName (N : Nat) (a0 : ByteArray) (r : Bool) (h : ref24_ValidName N a0 = some r) : Con Try.prog 64 [] true [.val (.string a0)] (.val (.bool r)) := by
  refine fun_ok4 (G := (glist [])) Try.func64 rfl (by decide) (by kernel_rfl) gn [] mix (Nat.le_of_ble_eq_true rfl) ?_
  simp only [Try.f64]
  unfold ref24_ValidName at h
  refine Wk_seq (Wk_regionZ fun Z hZ => ?_)
  simp only [go_sem, seval]
  refine hZ _ (pp ?_)
  refine Wk_seq (Wk_regionZ fun Z hZ => ?_)
  simp only [go_sem, seval]
  refine RX_guard_dec rfl (fun hc1 => ?_) (fun hc1 => ?_)
  · have hc1d := decide_eq_true hc1
    first | rw [if_pos hc1] at h | rw [if_pos hc1d] at h
    simp only [go_sem, seval, hc1d]
    refine hZ _ (pp ?_)
    refine Wk_ret (pp ?_)
    cases h
    simp only [go_sem, seval, hc1d]
    exact ⟨_, rfl, RokI.h, PureI.h⟩
  have hc1d := decide_eq_false hc1
  first | rw [if_neg hc1] at h | rw [if_neg (ne_true_of_eq_false hc1d)] at h
  simp only [go_sem, seval, hc1d]
  refine hZ _ (pp ?_)
  refine Wk_ret (pp ?_)
  cases h
  simp only [go_sem, seval, hc1d]
  exact ⟨_, rfl, RokI.h, PureI.h⟩
def fs_ref24_ValidName (N : Nat) : FnS := { own := [], pure := true, fn := fun cs => match cs with
  | [c0] => (decS c0).bind fun qc0 => (ref24_ValidName N qc0).map fun r => .val (.bool r)
  | _ => none }
attribute [go_sem] fs_ref24_ValidName
theorem fs_ref24_ValidName_ok (N : Nat) : FSOk Try.prog 64 (fs_ref24_ValidName N) := by
  refine ⟨fun cs r h => ?_, fun h => by cases h⟩
  simp only [fs_ref24_ValidName] at h
  split at h
  · simp only [Option.bind_eq_some_iff, Option.map_eq_some_iff] at h
    obtain ⟨q0, h0, r', hr, rfl⟩ := h
    exact ((w_ref24_ValidName N q0 r' hr).args (LeL.cons (decS_le h0) (LeL.nil)))
  · cases h


set_option maxHeartbeats 40000000 in
theorem w_ref24_validPath (N : Nat) (a0 : (List Int)) (r : Bool) (h : ref24_validPath N a0 = some r) : Con Try.prog 65 [] true [.sl false none 1 none (a0.map (rowI .i64))] (.val (.bool r)) := by
  refine fun_ok4 (G := (glist [])) Try.func65 rfl (by decide) (by kernel_rfl) gn [] mix (Nat.le_of_ble_eq_true rfl) ?_
  simp only [Try.f65]
  unfold ref24_validPath at h
  refine Wk_seq (Wk_regionZ fun Z hZ => ?_)
  simp only [go_sem, seval]
  refine hZ _ (pp ?_)
  refine Wk_seq (Wk_seq (Wk_regionZ fun Z hZ => ?_))
  simp only [go_sem, seval]
  refine hZ _ (pp ?_)
  refine Wk_block (Wk_real fun hreal2 => ?_)
  have hl1 := hreal2.lenT 0 (by decide) (by simp only [go_sem, seval, Bool.or_self, List.length_set, Int.natCast_zero, Int.cast_ofNat_Int]; rfl)
  rw [List.length_map] at hl1
  refine Wk_range (fun (v2 : Nat) (b : Unit) => ⟨tab 25 (updT (updT deadT 0 (.sl false none 1 none (a0.map (rowI .i64)))) 3 (.val (.int .i64 ((v2 : Nat) : Int)))), RZ⟩) () h ?_ ?_
  · refine weak_roots ?_ ?_ <;> repeat' first | exact xn | exact rn | refine xc ?_ ?_ | refine rc ?_ ?_ ?_ | rfl | simp only [go_sem, seval, Bool.or_self, List.length_set, Int.natCast_zero, Int.cast_ofNat_Int]
  rintro v2 ⟨⟩ hi3 h -
  rcases (drop_cases a0 v2 hi3).symm with ⟨hi3', _, hd6⟩ | ⟨x5, hi3', hx4, hd6⟩
  · rw [hd6] at h
    simp only [ref24_validPath_L1] at h
    refine Wk_seq (Wk_seq (Wk_regionZ fun Z hZ => ?_))
    simp only [go_sem, seval, hi3']
    refine hZ _ (pp ?_)
    try simp only [Int.ofNat_lt, hi3', if_true, if_false] at h
    refine Wk_cond_f rfl (Wk_exit (pp ?_))
    refine Wk_seq (Wk_regionZ fun Z hZ => ?_)
    simp only [go_sem, seval, hi3']
    refine hZ _ (pp ?_)
    refine Wk_ret (pp ?_)
    cases h
    simp only [go_sem, seval, hi3']
    exact ⟨_, rfl, RokI.h, PureI.h⟩
  rw [hd6] at h
  simp only [ref24_validPath_L1] at h
  have hw5 := wrap_succ hi3' hl1
  refine Wk_seq (Wk_seq (Wk_regionZ fun Z hZ => ?_))
  simp only [go_sem, seval, hx4, hi3', hw5]
  refine hZ _ (pp ?_)
  try simp only [Int.ofNat_lt, hi3', if_true, if_false] at h
  refine Wk_cond_t rfl (Wk_skip (pp ?_))
  refine Wk_seq (Wk_block ?_)
  apply Wk_join1 (fun (c1 : Bool) => ⟨tab 25 (updT (updT (updT deadT 0 (.sl false none 1 none (a0.map (rowI .i64)))) 3 (.val (.int .i64 ((v2 : Nat) : Int)))) 21 (.val (.bool c1))), RZ⟩)
  · intro hJ7
    try rw [gx_nat hx4] at h
    refine Wk_regionZ fun Z hZ => ?_
    simp only [go_sem, seval, hx4, hi3', hw5]
    refine RX_guard_dec rfl (fun hc8 => ?_) (fun hc8 => ?_)
    · have hc8d := decide_eq_true hc8
      first | rw [if_pos hc8] at h | rw [if_pos hc8d] at h
      simp only [go_sem, seval, hx4, hi3', hw5, hc8d]
      refine hZ _ (pp ?_)
      refine hJ7 _ true ?_ h
      refine weak_roots ?_ ?_ <;> repeat' first | exact xn | exact rn | refine xc ?_ ?_ | refine rc ?_ ?_ ?_ | rfl | simp only [go_sem, seval, Bool.or_self, List.length_set, Int.natCast_zero, Int.cast_ofNat_Int, hx4, hi3', hw5, hc8d]
    have hc8d := decide_eq_false hc8
    first | rw [if_neg hc8] at h | rw [if_neg (ne_true_of_eq_false hc8d)] at h
    try rw [gx_nat hx4] at h
    simp only [go_sem, seval, hx4, hi3', hw5, hc8d]
    refine hZ _ (pp ?_)
    refine hJ7 _ (decide (1099511627776 < x5)) ?_ h
    refine weak_roots ?_ ?_ <;> repeat' first | exact xn | exact rn | refine xc ?_ ?_ | refine rc ?_ ?_ ?_ | rfl | simp only [go_sem, seval, Bool.or_self, List.length_set, Int.natCast_zero, Int.cast_ofNat_Int, hx4, hi3', hw5, hc8d]
  intro c1 h
  unfold ref24_validPath_J1 at h
  refine Wk_cond_bool rfl (fun hc9 => ?_) (fun hc9 => ?_)
  · rw [if_pos hc9] at h
    refine Wk_seq (Wk_regionZ fun Z hZ => ?_)
    simp only [go_sem, seval, hx4, hi3', hw5, hc9]
    refine hZ _ (pp ?_)
    refine Wk_ret (pp ?_)
    cases h
    simp only [go_sem, seval, hx4, hi3', hw5, hc9]
    exact ⟨_, rfl, RokI.h, PureI.h⟩
  rw [if_neg (ne_true_of_eq_false hc9)] at h
  refine Wk_skip (pp ?_)
  refine Wk_regionZ fun Z hZ => ?_
  simp only [go_sem, seval, hx4, hi3', hw5, hc9]
  refine hZ _ (pp ?_)
  first | refine ⟨(), ?_, h⟩ | refine ⟨hi3', (), ?_, h⟩
  refine weak_roots ?_ ?_ <;> repeat' first | exact xn | exact rn | refine xc ?_ ?_ | refine rc ?_ ?_ ?_ | rfl | simp only [go_sem, seval, Bool.or_self, List.length_set, Int.natCast_zero, Int.cast_ofNat_Int, hx4, hi3', hw5, hc9]
def fs_ref24_validPath (N : Nat) : FnS := { own := [], pure := true, fn := fun cs => match cs with
  | [c0] => ((decL 1 (dec1 (decI .i64))) c0).bind fun qc0 => (ref24_validPath N qc0).map fun r => .val (.bool r)
  | _ => none }
attribute [go_sem] fs_ref24_validPath
theorem fs_ref24_validPath_ok (N : Nat) : FSOk Try.prog 65 (fs_ref24_validPath N) := by
  refine ⟨fun cs r h => ?_, fun h => by cases h⟩
  simp only [fs_ref24_validPath] at h
  split at h
  · simp only [Option.bind_eq_some_iff, Option.map_eq_some_iff] at h
    obtain ⟨q0, h0, r', hr, rfl⟩ := h
    exact ((w_ref24_validPath N q0 r' hr).args (LeL.cons (decL_le (decI1_le .i64) h0) (LeL.nil)))
  · cases h


set_option maxHeartbeats 40000000 in
theorem w_ref1_ValidValue (N : Nat) (a0 : Value) (r : Bool) (h : ref1_ValidValue N a0 = some r) : Con Try.prog 68 [] true [.agg (Value.row a0)] (.val (.bool r)) := by
  refine fun_ok4 (G := (glist [])) Try.func68 rfl (by decide) (by kernel_rfl) gn [] mix (Nat.le_of_ble_eq_true rfl) ?_
  simp only [Try.f68]
  unfold ref1_ValidValue at h
  refine Wk_seq (Wk_regionZ fun Z hZ => ?_)
  simp only [go_sem, seval]
  refine hZ _ (pp ?_)
  refine Wk_seq ?_
  apply Wk_join1 (fun (c3 : Bool) => ⟨tab 104 (updT (updT deadT 1 (.pref 1 [] 0 0)) 48 (.val (.bool c3))), (upd RZ 1 (.sl true none 5 (some 1) [Value.row a0]))⟩)
  · intro hJ1
    refine Wk_regionZ fun Z hZ => ?_
    simp only [go_sem, seval]
    refine sw (RX_guard_ndec rfl) (fun hc2 => ?_) (fun hc2 => ?_)
    · have hc2d := decide_eq_true hc2
      first | rw [if_pos hc2] at h | rw [if_pos hc2d] at h
      simp only [go_sem, seval, hc2d]
      refine sw (RX_guard_ndec rfl) (fun hc25 => ?_) (fun hc25 => ?_)
      · have hc25d := decide_eq_true hc25
        first | rw [if_pos hc25] at h | rw [if_pos hc25d] at h
        simp only [go_sem, seval, hc2d, hc25d]
        refine sw (RX_guard_ndec rfl) (fun hc31 => ?_) (fun hc31 => ?_)
        · have hc31d := decide_eq_true hc31
          first | rw [if_pos hc31] at h | rw [if_pos hc31d] at h
          simp only [go_sem, seval, hc2d, hc25d, hc31d]
          refine RX_guard_ndec rfl (fun hc34 => ?_) (fun hc34 => ?_)
          · have hc34d := decide_eq_false hc34
            first | rw [if_neg hc34] at h | rw [if_neg (ne_true_of_eq_false hc34d)] at h
            simp only [go_sem, seval, hc2d, hc25d, hc31d, hc34d]
            refine hZ _ (pp ?_)
            refine hJ1 _ (decide (0 < ((a0.L.length : Nat) : Int))) ?_ h
            refine weak_roots ?_ ?_ <;> repeat' first | exact xn | exact rn | refine xc ?_ ?_ | refine rc ?_ ?_ ?_ | rfl | simp only [go_sem, seval, Bool.or_self, List.length_set, Int.natCast_zero, Int.cast_ofNat_Int, hc2d, hc25d, hc31d, hc34d]
          have hc34d := decide_eq_true hc34
          first | rw [if_pos hc34] at h | rw [if_pos hc34d] at h
          simp only [go_sem, seval, hc2d, hc25d, hc31d, hc34d]
          refine hZ _ (pp ?_)
          refine hJ1 _ false ?_ h
          refine weak_roots ?_ ?_ <;> repeat' first | exact xn | exact rn | refine xc ?_ ?_ | refine rc ?_ ?_ ?_ | rfl | simp only [go_sem, seval, Bool.or_self, List.length_set, Int.natCast_zero, Int.cast_ofNat_Int, hc2d, hc25d, hc31d, hc34d]
        have hc31d := decide_eq_false hc31
        first | rw [if_neg hc31] at h | rw [if_neg (ne_true_of_eq_false hc31d)] at h
        simp only [go_sem, seval, hc2d, hc25d, hc31d]
        refine RX_guard_dec rfl (fun hc32 => ?_) (fun hc32 => ?_)
        · have hc32d := decide_eq_true hc32
          first | rw [if_pos hc32] at h | rw [if_pos hc32d] at h
          simp only [go_sem, seval, hc2d, hc25d, hc31d, hc32d]
          refine hZ _ (pp ?_)
          refine hJ1 _ true ?_ h
          refine weak_roots ?_ ?_ <;> repeat' first | exact xn | exact rn | refine xc ?_ ?_ | refine rc ?_ ?_ ?_ | rfl | simp only [go_sem, seval, Bool.or_self, List.length_set, Int.natCast_zero, Int.cast_ofNat_Int, hc2d, hc25d, hc31d, hc32d]
        have hc32d := decide_eq_false hc32
        first | rw [if_neg hc32] at h | rw [if_neg (ne_true_of_eq_false hc32d)] at h
        simp only [go_sem, seval, hc2d, hc25d, hc31d, hc32d]
        refine RX_guard_ndec rfl (fun hc33 => ?_) (fun hc33 => ?_)
        · have hc33d := decide_eq_false hc33
          first | rw [if_neg hc33] at h | rw [if_neg (ne_true_of_eq_false hc33d)] at h
          simp only [go_sem, seval, hc2d, hc25d, hc31d, hc32d, hc33d]
          refine hZ _ (pp ?_)
          refine hJ1 _ (decide (0 < ((a0.L.length : Nat) : Int))) ?_ h
          refine weak_roots ?_ ?_ <;> repeat' first | exact xn | exact rn | refine xc ?_ ?_ | refine rc ?_ ?_ ?_ | rfl | simp only [go_sem, seval, Bool.or_self, List.length_set, Int.natCast_zero, Int.cast_ofNat_Int, hc2d, hc25d, hc31d, hc32d, hc33d]
        have hc33d := decide_eq_true hc33
        first | rw [if_pos hc33] at h | rw [if_pos hc33d] at h
        simp only [go_sem, seval, hc2d, hc25d, hc31d, hc32d, hc33d]
        refine hZ _ (pp ?_)
        refine hJ1 _ false ?_ h
        refine weak_roots ?_ ?_ <;> repeat' first | exact xn | exact rn | refine xc ?_ ?_ | refine rc ?_ ?_ ?_ | rfl | simp only [go_sem, seval, Bool.or_self, List.length_set, Int.natCast_zero, Int.cast_ofNat_Int, hc2d, hc25d, hc31d, hc32d, hc33d]
      have hc25d := decide_eq_false hc25
      first | rw [if_neg hc25] at h | rw [if_neg (ne_true_of_eq_false hc25d)] at h
      simp only [go_sem, seval, hc2d, hc25d]
      refine RX_guard_nbool rfl (fun hc26 => ?_) (fun hc26 => ?_)
      · rw [if_neg (ne_true_of_eq_false hc26)] at h
        simp only [go_sem, seval, hc2d, hc25d, hc26]
        refine hZ _ (pp ?_)
        refine hJ1 _ true ?_ h
        refine weak_roots ?_ ?_ <;> repeat' first | exact xn | exact rn | refine xc ?_ ?_ | refine rc ?_ ?_ ?_ | rfl | simp only [go_sem, seval, Bool.or_self, List.length_set, Int.natCast_zero, Int.cast_ofNat_Int, hc2d, hc25d, hc26]
      rw [if_pos hc26] at h
      simp only [go_sem, seval, hc2d, hc25d, hc26]
      refine sw (RX_guard_ndec rfl) (fun hc27 => ?_) (fun hc27 => ?_)
      · have hc27d := decide_eq_true hc27
        first | rw [if_pos hc27] at h | rw [if_pos hc27d] at h
        simp only [go_sem, seval, hc2d, hc25d, hc26, hc27d]
        refine RX_guard_ndec rfl (fun hc30 => ?_) (fun hc30 => ?_)
        · have hc30d := decide_eq_false hc30
          first | rw [if_neg hc30] at h | rw [if_neg (ne_true_of_eq_false hc30d)] at h
          simp only [go_sem, seval, hc2d, hc25d, hc26, hc27d, hc30d]
          refine hZ _ (pp ?_)
          refine hJ1 _ (decide (0 < ((a0.L.length : Nat) : Int))) ?_ h
          refine weak_roots ?_ ?_ <;> repeat' first | exact xn | exact rn | refine xc ?_ ?_ | refine rc ?_ ?_ ?_ | rfl | simp only [go_sem, seval, Bool.or_self, List.length_set, Int.natCast_zero, Int.cast_ofNat_Int, hc2d, hc25d, hc26, hc27d, hc30d]
        have hc30d := decide_eq_true hc30
        first | rw [if_pos hc30] at h | rw [if_pos hc30d] at h
        simp only [go_sem, seval, hc2d, hc25d, hc26, hc27d, hc30d]
        refine hZ _ (pp ?_)
        refine hJ1 _ false ?_ h
        refine weak_roots ?_ ?_ <;> repeat' first | exact xn | exact rn | refine xc ?_ ?_ | refine rc ?_ ?_ ?_ | rfl | simp only [go_sem, seval, Bool.or_self, List.length_set, Int.natCast_zero, Int.cast_ofNat_Int, hc2d, hc25d, hc26, hc27d, hc30d]
      have hc27d := decide_eq_false hc27
      first | rw [if_neg hc27] at h | rw [if_neg (ne_true_of_eq_false hc27d)] at h
      simp only [go_sem, seval, hc2d, hc25d, hc26, hc27d]
      refine RX_guard_dec rfl (fun hc28 => ?_) (fun hc28 => ?_)
      · have hc28d := decide_eq_true hc28
        first | rw [if_pos hc28] at h | rw [if_pos hc28d] at h
        simp only [go_sem, seval, hc2d, hc25d, hc26, hc27d, hc28d]
        refine hZ _ (pp ?_)
        refine hJ1 _ true ?_ h
        refine weak_roots ?_ ?_ <;> repeat' first | exact xn | exact rn | refine xc ?_ ?_ | refine rc ?_ ?_ ?_ | rfl | simp only [go_sem, seval, Bool.or_self, List.length_set, Int.natCast_zero, Int.cast_ofNat_Int, hc2d, hc25d, hc26, hc27d, hc28d]
      have hc28d := decide_eq_false hc28
      first | rw [if_neg hc28] at h | rw [if_neg (ne_true_of_eq_false hc28d)] at h
      simp only [go_sem, seval, hc2d, hc25d, hc26, hc27d, hc28d]
      refine RX_guard_ndec rfl (fun hc29 => ?_) (fun hc29 => ?_)
      · have hc29d := decide_eq_false hc29
        first | rw [if_neg hc29] at h | rw [if_neg (ne_true_of_eq_false hc29d)] at h
        simp only [go_sem, seval, hc2d, hc25d, hc26, hc27d, hc28d, hc29d]
        refine hZ _ (pp ?_)
        refine hJ1 _ (decide (0 < ((a0.L.length : Nat) : Int))) ?_ h
        refine weak_roots ?_ ?_ <;> repeat' first | exact xn | exact rn | refine xc ?_ ?_ | refine rc ?_ ?_ ?_ | rfl | simp only [go_sem, seval, Bool.or_self, List.length_set, Int.natCast_zero, Int.cast_ofNat_Int, hc2d, hc25d, hc26, hc27d, hc28d, hc29d]
      have hc29d := decide_eq_true hc29
      first | rw [if_pos hc29] at h | rw [if_pos hc29d] at h
      simp only [go_sem, seval, hc2d, hc25d, hc26, hc27d, hc28d, hc29d]
      refine hZ _ (pp ?_)
      refine hJ1 _ false ?_ h
      refine weak_roots ?_ ?_ <;> repeat' first | exact xn | exact rn | refine xc ?_ ?_ | refine rc ?_ ?_ ?_ | rfl | simp only [go_sem, seval, Bool.or_self, List.length_set, Int.natCast_zero, Int.cast_ofNat_Int, hc2d, hc25d, hc26, hc27d, hc28d, hc29d]
    have hc2d := decide_eq_false hc2
    first | rw [if_neg hc2] at h | rw [if_neg (ne_true_of_eq_false hc2d)] at h
    simp only [go_sem, seval, hc2d]
    refine sw (RX_guard_ndec rfl) (fun hc3 => ?_) (fun hc3 => ?_)
    · have hc3d := decide_eq_true hc3
      first | rw [if_pos hc3] at h | rw [if_pos hc3d] at h
      simp only [go_sem, seval, hc2d, hc3d]
      refine sw (RX_guard_ndec rfl) (fun hc15 => ?_) (fun hc15 => ?_)
      · have hc15d := decide_eq_true hc15
        first | rw [if_pos hc15] at h | rw [if_pos hc15d] at h
        simp only [go_sem, seval, hc2d, hc3d, hc15d]
        refine sw (RX_guard_ndec rfl) (fun hc21 => ?_) (fun hc21 => ?_)
        · have hc21d := decide_eq_true hc21
          first | rw [if_pos hc21] at h | rw [if_pos hc21d] at h
          simp only [go_sem, seval, hc2d, hc3d, hc15d, hc21d]
          refine RX_guard_ndec rfl (fun hc24 => ?_) (fun hc24 => ?_)
          · have hc24d := decide_eq_false hc24
            first | rw [if_neg hc24] at h | rw [if_neg (ne_true_of_eq_false hc24d)] at h
            simp only [go_sem, seval, hc2d, hc3d, hc15d, hc21d, hc24d]
            refine hZ _ (pp ?_)
            refine hJ1 _ (decide (0 < ((a0.L.length : Nat) : Int))) ?_ h
            refine weak_roots ?_ ?_ <;> repeat' first | exact xn | exact rn | refine xc ?_ ?_ | refine rc ?_ ?_ ?_ | rfl | simp only [go_sem, seval, Bool.or_self, List.length_set, Int.natCast_zero, Int.cast_ofNat_Int, hc2d, hc3d, hc15d, hc21d, hc24d]
          have hc24d := decide_eq_true hc24
          first | rw [if_pos hc24] at h | rw [if_pos hc24d] at h
          simp only [go_sem, seval, hc2d, hc3d, hc15d, hc21d, hc24d]
          refine hZ _ (pp ?_)
          refine hJ1 _ false ?_ h
          refine weak_roots ?_ ?_ <;> repeat' first | exact xn | exact rn | refine xc ?_ ?_ | refine rc ?_ ?_ ?_ | rfl | simp only [go_sem, seval, Bool.or_self, List.length_set, Int.natCast_zero, Int.cast_ofNat_Int, hc2d, hc3d, hc15d, hc21d, hc24d]
        have hc21d := decide_eq_false hc21
        first | rw [if_neg hc21] at h | rw [if_neg (ne_true_of_eq_false hc21d)] at h
        simp only [go_sem, seval, hc2d, hc3d, hc15d, hc21d]
        refine RX_guard_dec rfl (fun hc22 => ?_) (fun hc22 => ?_)
        · have hc22d := decide_eq_true hc22
          first | rw [if_pos hc22] at h | rw [if_pos hc22d] at h
          simp only [go_sem, seval, hc2d, hc3d, hc15d, hc21d, hc22d]
          refine hZ _ (pp ?_)
          refine hJ1 _ true ?_ h
          refine weak_roots ?_ ?_ <;> repeat' first | exact xn | exact rn | refine xc ?_ ?_ | refine rc ?_ ?_ ?_ | rfl | simp only [go_sem, seval, Bool.or_self, List.length_set, Int.natCast_zero, Int.cast_ofNat_Int, hc2d, hc3d, hc15d, hc21d, hc22d]
        have hc22d := decide_eq_false hc22
        first | rw [if_neg hc22] at h | rw [if_neg (ne_true_of_eq_false hc22d)] at h
        simp only [go_sem, seval, hc2d, hc3d, hc15d, hc21d, hc22d]
        refine RX_guard_ndec rfl (fun hc23 => ?_) (fun hc23 => ?_)
        · have hc23d := decide_eq_false hc23
          first | rw [if_neg hc23] at h | rw [if_neg (ne_true_of_eq_false hc23d)] at h
          simp only [go_sem, seval, hc2d, hc3d, hc15d, hc21d, hc22d, hc23d]
          refine hZ _ (pp ?_)
          refine hJ1 _ (decide (0 < ((a0.L.length : Nat) : Int))) ?_ h
          refine weak_roots ?_ ?_ <;> repeat' first | exact xn | exact rn | refine xc ?_ ?_ | refine rc ?_ ?_ ?_ | rfl | simp only [go_sem, seval, Bool.or_self, List.length_set, Int.natCast_zero, Int.cast_ofNat_Int, hc2d, hc3d, hc15d, hc21d, hc22d, hc23d]
        have hc23d := decide_eq_true hc23
        first | rw [if_pos hc23] at h | rw [if_pos hc23d] at h
        simp only [go_sem, seval, hc2d, hc3d, hc15d, hc21d, hc22d, hc23d]
        refine hZ _ (pp ?_)
        refine hJ1 _ false ?_ h
        refine weak_roots ?_ ?_ <;> repeat' first | exact xn | exact rn | refine xc ?_ ?_ | refine rc ?_ ?_ ?_ | rfl | simp only [go_sem, seval, Bool.or_self, List.length_set, Int.natCast_zero, Int.cast_ofNat_Int, hc2d, hc3d, hc15d, hc21d, hc22d, hc23d]
      have hc15d := decide_eq_false hc15
      first | rw [if_neg hc15] at h | rw [if_neg (ne_true_of_eq_false hc15d)] at h
      simp only [go_sem, seval, hc2d, hc3d, hc15d]
      refine RX_guard_nbool rfl (fun hc16 => ?_) (fun hc16 => ?_)
      · rw [if_neg (ne_true_of_eq_false hc16)] at h
        simp only [go_sem, seval, hc2d, hc3d, hc15d, hc16]
        refine hZ _ (pp ?_)
        refine hJ1 _ true ?_ h
        refine weak_roots ?_ ?_ <;> repeat' first | exact xn | exact rn | refine xc ?_ ?_ | refine rc ?_ ?_ ?_ | rfl | simp only [go_sem, seval, Bool.or_self, List.length_set, Int.natCast_zero, Int.cast_ofNat_Int, hc2d, hc3d, hc15d, hc16]
      rw [if_pos hc16] at h
      simp only [go_sem, seval, hc2d, hc3d, hc15d, hc16]
      refine sw (RX_guard_ndec rfl) (fun hc17 => ?_) (fun hc17 => ?_)
      · have hc17d := decide_eq_true hc17
        first | rw [if_pos hc17] at h | rw [if_pos hc17d] at h
        simp only [go_sem, seval, hc2d, hc3d, hc15d, hc16, hc17d]
        refine RX_guard_ndec rfl (fun hc20 => ?_) (fun hc20 => ?_)
        · have hc20d := decide_eq_false hc20
          first | rw [if_neg hc20] at h | rw [if_neg (ne_true_of_eq_false hc20d)] at h
          simp only [go_sem, seval, hc2d, hc3d, hc15d, hc16, hc17d, hc20d]
          refine hZ _ (pp ?_)
          refine hJ1 _ (decide (0 < ((a0.L.length : Nat) : Int))) ?_ h
          refine weak_roots ?_ ?_ <;> repeat' first | exact xn | exact rn | refine xc ?_ ?_ | refine rc ?_ ?_ ?_ | rfl | simp only [go_sem, seval, Bool.or_self, List.length_set, Int.natCast_zero, Int.cast_ofNat_Int, hc2d, hc3d, hc15d, hc16, hc17d, hc20d]
        have hc20d := decide_eq_true hc20
        first | rw [if_pos hc20] at h | rw [if_pos hc20d] at h
        simp only [go_sem, seval, hc2d, hc3d, hc15d, hc16, hc17d, hc20d]
        refine hZ _ (pp ?_)
        refine hJ1 _ false ?_ h
        refine weak_roots ?_ ?_ <;> repeat' first | exact xn | exact rn | refine xc ?_ ?_ | refine rc ?_ ?_ ?_ | rfl | simp only [go_sem, seval, Bool.or_self, List.length_set, Int.natCast_zero, Int.cast_ofNat_Int, hc2d, hc3d, hc15d, hc16, hc17d, hc20d]
      have hc17d := decide_eq_false hc17
      first | rw [if_neg hc17] at h | rw [if_neg (ne_true_of_eq_false hc17d)] at h
      simp only [go_sem, seval, hc2d, hc3d, hc15d, hc16, hc17d]
      refine RX_guard_dec rfl (fun hc18 => ?_) (fun hc18 => ?_)
      · have hc18d := decide_eq_true hc18
        first | rw [if_pos hc18] at h | rw [if_pos hc18d] at h
        simp only [go_sem, seval, hc2d, hc3d, hc15d, hc16, hc17d, hc18d]
        refine hZ _ (pp ?_)
        refine hJ1 _ true ?_ h
        refine weak_roots ?_ ?_ <;> repeat' first | exact xn | exact rn | refine xc ?_ ?_ | refine rc ?_ ?_ ?_ | rfl | simp only [go_sem, seval, Bool.or_self, List.length_set, Int.natCast_zero, Int.cast_ofNat_Int, hc2d, hc3d, hc15d, hc16, hc17d, hc18d]
      have hc18d := decide_eq_false hc18
      first | rw [if_neg hc18] at h | rw [if_neg (ne_true_of_eq_false hc18d)] at h
      simp only [go_sem, seval, hc2d, hc3d, hc15d, hc16, hc17d, hc18d]
      refine RX_guard_ndec rfl (fun hc19 => ?_) (fun hc19 => ?_)
      · have hc19d := decide_eq_false hc19
        first | rw [if_neg hc19] at h | rw [if_neg (ne_true_of_eq_false hc19d)] at h
        simp only [go_sem, seval, hc2d, hc3d, hc15d, hc16, hc17d, hc18d, hc19d]
        refine hZ _ (pp ?_)
        refine hJ1 _ (decide (0 < ((a0.L.length : Nat) : Int))) ?_ h
        refine weak_roots ?_ ?_ <;> repeat' first | exact xn | exact rn | refine xc ?_ ?_ | refine rc ?_ ?_ ?_ | rfl | simp only [go_sem, seval, Bool.or_self, List.length_set, Int.natCast_zero, Int.cast_ofNat_Int, hc2d, hc3d, hc15d, hc16, hc17d, hc18d, hc19d]
      have hc19d := decide_eq_true hc19
      first | rw [if_pos hc19] at h | rw [if_pos hc19d] at h
      simp only [go_sem, seval, hc2d, hc3d, hc15d, hc16, hc17d, hc18d, hc19d]
      refine hZ _ (pp ?_)
      refine hJ1 _ false ?_ h
      refine weak_roots ?_ ?_ <;> repeat' first | exact xn | exact rn | refine xc ?_ ?_ | refine rc ?_ ?_ ?_ | rfl | simp only [go_sem, seval, Bool.or_self, List.length_set, Int.natCast_zero, Int.cast_ofNat_Int, hc2d, hc3d, hc15d, hc16, hc17d, hc18d, hc19d]
    have hc3d := decide_eq_false hc3
    first | rw [if_neg hc3] at h | rw [if_neg (ne_true_of_eq_false hc3d)] at h
    simp only [go_sem, seval, hc2d, hc3d]
    refine RX_guard_ndec rfl (fun hc4 => ?_) (fun hc4 => ?_)
    · have hc4d := decide_eq_false hc4
      first | rw [if_neg hc4] at h | rw [if_neg (ne_true_of_eq_false hc4d)] at h
      simp only [go_sem, seval, hc2d, hc3d, hc4d]
      refine hZ _ (pp ?_)
      refine hJ1 _ true ?_ h
      refine weak_roots ?_ ?_ <;> repeat' first | exact xn | exact rn | refine xc ?_ ?_ | refine rc ?_ ?_ ?_ | rfl | simp only [go_sem, seval, Bool.or_self, List.length_set, Int.natCast_zero, Int.cast_ofNat_Int, hc2d, hc3d, hc4d]
    have hc4d := decide_eq_true hc4
    first | rw [if_pos hc4] at h | rw [if_pos hc4d] at h
    simp only [go_sem, seval, hc2d, hc3d, hc4d]
    refine sw (RX_guard_ndec rfl) (fun hc5 => ?_) (fun hc5 => ?_)
    · have hc5d := decide_eq_true hc5
      first | rw [if_pos hc5] at h | rw [if_pos hc5d] at h
      simp only [go_sem, seval, hc2d, hc3d, hc4d, hc5d]
      refine sw (RX_guard_ndec rfl) (fun hc11 => ?_) (fun hc11 => ?_)
      · have hc11d := decide_eq_true hc11
        first | rw [if_pos hc11] at h | rw [if_pos hc11d] at h
        simp only [go_sem, seval, hc2d, hc3d, hc4d, hc5d, hc11d]
        refine RX_guard_ndec rfl (fun hc14 => ?_) (fun hc14 => ?_)
        · have hc14d := decide_eq_false hc14
          first | rw [if_neg hc14] at h | rw [if_neg (ne_true_of_eq_false hc14d)] at h
          simp only [go_sem, seval, hc2d, hc3d, hc4d, hc5d, hc11d, hc14d]
          refine hZ _ (pp ?_)
          refine hJ1 _ (decide (0 < ((a0.L.length : Nat) : Int))) ?_ h
          refine weak_roots ?_ ?_ <;> repeat' first | exact xn | exact rn | refine xc ?_ ?_ | refine rc ?_ ?_ ?_ | rfl | simp only [go_sem, seval, Bool.or_self, List.length_set, Int.natCast_zero, Int.cast_ofNat_Int, hc2d, hc3d, hc4d, hc5d, hc11d, hc14d]
        have hc14d := decide_eq_true hc14
        first | rw [if_pos hc14] at h | rw [if_pos hc14d] at h
        simp only [go_sem, seval, hc2d, hc3d, hc4d, hc5d, hc11d, hc14d]
        refine hZ _ (pp ?_)
        refine hJ1 _ false ?_ h
        refine weak_roots ?_ ?_ <;> repeat' first | exact xn | exact rn | refine xc ?_ ?_ | refine rc ?_ ?_ ?_ | rfl | simp only [go_sem, seval, Bool.or_self, List.length_set, Int.natCast_zero, Int.cast_ofNat_Int, hc2d, hc3d, hc4d, hc5d, hc11d, hc14d]
      have hc11d := decide_eq_false hc11
      first | rw [if_neg hc11] at h | rw [if_neg (ne_true_of_eq_false hc11d)] at h
      simp only [go_sem, seval, hc2d, hc3d, hc4d, hc5d, hc11d]
      refine RX_guard_dec rfl (fun hc12 => ?_) (fun hc12 => ?_)
      · have hc12d := decide_eq_true hc12
        first | rw [if_pos hc12] at h | rw [if_pos hc12d] at h
        simp only [go_sem, seval, hc2d, hc3d, hc4d, hc5d, hc11d, hc12d]
        refine hZ _ (pp ?_)
        refine hJ1 _ true ?_ h
        refine weak_roots ?_ ?_ <;> repeat' first | exact xn | exact rn | refine xc ?_ ?_ | refine rc ?_ ?_ ?_ | rfl | simp only [go_sem, seval, Bool.or_self, List.length_set, Int.natCast_zero, Int.cast_ofNat_Int, hc2d, hc3d, hc4d, hc5d, hc11d, hc12d]
      have hc12d := decide_eq_false hc12
      first | rw [if_neg hc12] at h | rw [if_neg (ne_true_of_eq_false hc12d)] at h
      simp only [go_sem, seval, hc2d, hc3d, hc4d, hc5d, hc11d, hc12d]
      refine RX_guard_ndec rfl (fun hc13 => ?_) (fun hc13 => ?_)
      · have hc13d := decide_eq_false hc13
        first | rw [if_neg hc13] at h | rw [if_neg (ne_true_of_eq_false hc13d)] at h
        simp only [go_sem, seval, hc2d, hc3d, hc4d, hc5d, hc11d, hc12d, hc13d]
        refine hZ _ (pp ?_)
        refine hJ1 _ (decide (0 < ((a0.L.length : Nat) : Int))) ?_ h
        refine weak_roots ?_ ?_ <;> repeat' first | exact xn | exact rn | refine xc ?_ ?_ | refine rc ?_ ?_ ?_ | rfl | simp only [go_sem, seval, Bool.or_self, List.length_set, Int.natCast_zero, Int.cast_ofNat_Int, hc2d, hc3d, hc4d, hc5d, hc11d, hc12d, hc13d]
      have hc13d := decide_eq_true hc13
      first | rw [if_pos hc13] at h | rw [if_pos hc13d] at h
      simp only [go_sem, seval, hc2d, hc3d, hc4d, hc5d, hc11d, hc12d, hc13d]
      refine hZ _ (pp ?_)
      refine hJ1 _ false ?_ h
      refine weak_roots ?_ ?_ <;> repeat' first | exact xn | exact rn | refine xc ?_ ?_ | refine rc ?_ ?_ ?_ | rfl | simp only [go_sem, seval, Bool.or_self, List.length_set, Int.natCast_zero, Int.cast_ofNat_Int, hc2d, hc3d, hc4d, hc5d, hc11d, hc12d, hc13d]
    have hc5d := decide_eq_false hc5
    first | rw [if_neg hc5] at h | rw [if_neg (ne_true_of_eq_false hc5d)] at h
    simp only [go_sem, seval, hc2d, hc3d, hc4d, hc5d]
    refine RX_guard_nbool rfl (fun hc6 => ?_) (fun hc6 => ?_)
    · rw [if_neg (ne_true_of_eq_false hc6)] at h
      simp only [go_sem, seval, hc2d, hc3d, hc4d, hc5d, hc6]
      refine hZ _ (pp ?_)
      refine hJ1 _ true ?_ h
      refine weak_roots ?_ ?_ <;> repeat' first | exact xn | exact rn | refine xc ?_ ?_ | refine rc ?_ ?_ ?_ | rfl | simp only [go_sem, seval, Bool.or_self, List.length_set, Int.natCast_zero, Int.cast_ofNat_Int, hc2d, hc3d, hc4d, hc5d, hc6]
    rw [if_pos hc6] at h
    simp only [go_sem, seval, hc2d, hc3d, hc4d, hc5d, hc6]
    refine sw (RX_guard_ndec rfl) (fun hc7 => ?_) (fun hc7 => ?_)
    · have hc7d := decide_eq_true hc7
      first | rw [if_pos hc7] at h | rw [if_pos hc7d] at h
      simp only [go_sem, seval, hc2d, hc3d, hc4d, hc5d, hc6, hc7d]
      refine RX_guard_ndec rfl (fun hc10 => ?_) (fun hc10 => ?_)
      · have hc10d := decide_eq_false hc10
        first | rw [if_neg hc10] at h | rw [if_neg (ne_true_of_eq_false hc10d)] at h
        simp only [go_sem, seval, hc2d, hc3d, hc4d, hc5d, hc6, hc7d, hc10d]
        refine hZ _ (pp ?_)
        refine hJ1 _ (decide (0 < ((a0.L.length : Nat) : Int))) ?_ h
        refine weak_roots ?_ ?_ <;> repeat' first | exact xn | exact rn | refine xc ?_ ?_ | refine rc ?_ ?_ ?_ | rfl | simp only [go_sem, seval, Bool.or_self, List.length_set, Int.natCast_zero, Int.cast_ofNat_Int, hc2d, hc3d, hc4d, hc5d, hc6, hc7d, hc10d]
      have hc10d := decide_eq_true hc10
      first | rw [if_pos hc10] at h | rw [if_pos hc10d] at h
      simp only [go_sem, seval, hc2d, hc3d, hc4d, hc5d, hc6, hc7d, hc10d]
      refine hZ _ (pp ?_)
      refine hJ1 _ false ?_ h
      refine weak_roots ?_ ?_ <;> repeat' first | exact xn | exact rn | refine xc ?_ ?_ | refine rc ?_ ?_ ?_ | rfl | simp only [go_sem, seval, Bool.or_self, List.length_set, Int.natCast_zero, Int.cast_ofNat_Int, hc2d, hc3d, hc4d, hc5d, hc6, hc7d, hc10d]
    have hc7d := decide_eq_false hc7
    first | rw [if_neg hc7] at h | rw [if_neg (ne_true_of_eq_false hc7d)] at h
    simp only [go_sem, seval, hc2d, hc3d, hc4d, hc5d, hc6, hc7d]
    refine RX_guard_dec rfl (fun hc8 => ?_) (fun hc8 => ?_)
    · have hc8d := decide_eq_true hc8
      first | rw [if_pos hc8] at h | rw [if_pos hc8d] at h
      simp only [go_sem, seval, hc2d, hc3d, hc4d, hc5d, hc6, hc7d, hc8d]
      refine hZ _ (pp ?_)
      refine hJ1 _ true ?_ h
      refine weak_roots ?_ ?_ <;> repeat' first | exact xn | exact rn | refine xc ?_ ?_ | refine rc ?_ ?_ ?_ | rfl | simp only [go_sem, seval, Bool.or_self, List.length_set, Int.natCast_zero, Int.cast_ofNat_Int, hc2d, hc3d, hc4d, hc5d, hc6, hc7d, hc8d]
    have hc8d := decide_eq_false hc8
    first | rw [if_neg hc8] at h | rw [if_neg (ne_true_of_eq_false hc8d)] at h
    simp only [go_sem, seval, hc2d, hc3d, hc4d, hc5d, hc6, hc7d, hc8d]
    refine RX_guard_ndec rfl (fun hc9 => ?_) (fun hc9 => ?_)
    · have hc9d := decide_eq_false hc9
      first | rw [if_neg hc9] at h | rw [if_neg (ne_true_of_eq_false hc9d)] at h
      simp only [go_sem, seval, hc2d, hc3d, hc4d, hc5d, hc6, hc7d, hc8d, hc9d]
      refine hZ _ (pp ?_)
      refine hJ1 _ (decide (0 < ((a0.L.length : Nat) : Int))) ?_ h
      refine weak_roots ?_ ?_ <;> repeat' first | exact xn | exact rn | refine xc ?_ ?_ | refine rc ?_ ?_ ?_ | rfl | simp only [go_sem, seval, Bool.or_self, List.length_set, Int.natCast_zero, Int.cast_ofNat_Int, hc2d, hc3d, hc4d, hc5d, hc6, hc7d, hc8d, hc9d]
    have hc9d := decide_eq_true hc9
    first | rw [if_pos hc9] at h | rw [if_pos hc9d] at h
    simp only [go_sem, seval, hc2d, hc3d, hc4d, hc5d, hc6, hc7d, hc8d, hc9d]
    refine hZ _ (pp ?_)
    refine hJ1 _ false ?_ h
    refine weak_roots ?_ ?_ <;> repeat' first | exact xn | exact rn | refine xc ?_ ?_ | refine rc ?_ ?_ ?_ | rfl | simp only [go_sem, seval, Bool.or_self, List.length_set, Int.natCast_zero, Int.cast_ofNat_Int, hc2d, hc3d, hc4d, hc5d, hc6, hc7d, hc8d, hc9d]
  intro c3 h
  unfold ref1_ValidValue_J1 at h
  refine Wk_cond_bool rfl (fun hc35 => ?_) (fun hc35 => ?_)
  · rw [if_pos hc35] at h
    refine Wk_seq (Wk_regionZ fun Z hZ => ?_)
    simp only [go_sem, seval, hc35]
    refine hZ _ (pp ?_)
    refine Wk_ret (pp ?_)
    cases h
    simp only [go_sem, seval, hc35]
    exact ⟨_, rfl, RokI.h, PureI.h⟩
  rw [if_neg (ne_true_of_eq_false hc35)] at h
  refine Wk_skip (pp ?_)
  unfold ref1_ValidValue_J4 at h
  refine Wk_seq ?_
  apply Wk_join1 (fun (c6 : Bool) => ⟨tab 104 (updT (updT deadT 1 (.pref 1 [] 0 0)) 89 (.val (.bool c6))), (upd RZ 1 (.sl true none 5 (some 1) [Value.row a0]))⟩)
  · intro hJ36
    refine Wk_regionZ fun Z hZ => ?_
    simp only [go_sem, seval, hc35]
    refine RX_guard_dec rfl (fun hc37 => ?_) (fun hc37 => ?_)
    · have hc37d := decide_eq_true hc37
      first | rw [if_pos hc37] at h | rw [if_pos hc37d] at h
      simp only [go_sem, seval, hc35, hc37d]
      refine hZ _ (pp ?_)
      refine hJ36 _ true ?_ h
      refine weak_roots ?_ ?_ <;> repeat' first | exact xn | exact rn | refine xc ?_ ?_ | refine rc ?_ ?_ ?_ | rfl | simp only [go_sem, seval, Bool.or_self, List.length_set, Int.natCast_zero, Int.cast_ofNat_Int, hc35, hc37d]
    have hc37d := decide_eq_false hc37
    first | rw [if_neg hc37] at h | rw [if_neg (ne_true_of_eq_false hc37d)] at h
    simp only [go_sem, seval, hc35, hc37d]
    refine RX_guard_dec rfl (fun hc38 => ?_) (fun hc38 => ?_)
    · have hc38d := decide_eq_true hc38
      first | rw [if_pos hc38] at h | rw [if_pos hc38d] at h
      simp only [go_sem, seval, hc35, hc37d, hc38d]
      refine hZ _ (pp ?_)
      refine hJ36 _ true ?_ h
      refine weak_roots ?_ ?_ <;> repeat' first | exact xn | exact rn | refine xc ?_ ?_ | refine rc ?_ ?_ ?_ | rfl | simp only [go_sem, seval, Bool.or_self, List.length_set, Int.natCast_zero, Int.cast_ofNat_Int, hc35, hc37d, hc38d]
    have hc38d := decide_eq_false hc38
    first | rw [if_neg hc38] at h | rw [if_neg (ne_true_of_eq_false hc38d)] at h
    simp only [go_sem, seval, hc35, hc37d, hc38d]
    refine sw (RX_guard_dec rfl) (fun hc39 => ?_) (fun hc39 => ?_)
    · have hc39d := decide_eq_false hc39
      first | rw [if_neg hc39] at h | rw [if_neg (ne_true_of_eq_false hc39d)] at h
      simp only [go_sem, seval, hc35, hc37d, hc38d, hc39d]
      refine RX_guard_dec rfl (fun hc46 => ?_) (fun hc46 => ?_)
      · have hc46d := decide_eq_true hc46
        first | rw [if_pos hc46] at h | rw [if_pos hc46d] at h
        simp only [go_sem, seval, hc35, hc37d, hc38d, hc39d, hc46d]
        refine hZ _ (pp ?_)
        refine hJ36 _ true ?_ h
        refine weak_roots ?_ ?_ <;> repeat' first | exact xn | exact rn | refine xc ?_ ?_ | refine rc ?_ ?_ ?_ | rfl | simp only [go_sem, seval, Bool.or_self, List.length_set, Int.natCast_zero, Int.cast_ofNat_Int, hc35, hc37d, hc38d, hc39d, hc46d]
      have hc46d := decide_eq_false hc46
      first | rw [if_neg hc46] at h | rw [if_neg (ne_true_of_eq_false hc46d)] at h
      simp only [go_sem, seval, hc35, hc37d, hc38d, hc39d, hc46d]
      refine RX_guard_dec rfl (fun hc47 => ?_) (fun hc47 => ?_)
      · have hc47d := decide_eq_true hc47
        first | rw [if_pos hc47] at h | rw [if_pos hc47d] at h
        simp only [go_sem, seval, hc35, hc37d, hc38d, hc39d, hc46d, hc47d]
        refine hZ _ (pp ?_)
        refine hJ36 _ true ?_ h
        refine weak_roots ?_ ?_ <;> repeat' first | exact xn | exact rn | refine xc ?_ ?_ | refine rc ?_ ?_ ?_ | rfl | simp only [go_sem, seval, Bool.or_self, List.length_set, Int.natCast_zero, Int.cast_ofNat_Int, hc35, hc37d, hc38d, hc39d, hc46d, hc47d]
      have hc47d := decide_eq_false hc47
      first | rw [if_neg hc47] at h | rw [if_neg (ne_true_of_eq_false hc47d)] at h
      simp only [go_sem, seval, hc35, hc37d, hc38d, hc39d, hc46d, hc47d]
      refine hZ _ (pp ?_)
      refine hJ36 _ (decide (16 < ((a0.L.length : Nat) : Int))) ?_ h
      refine weak_roots ?_ ?_ <;> repeat' first | exact xn | exact rn | refine xc ?_ ?_ | refine rc ?_ ?_ ?_ | rfl | simp only [go_sem, seval, Bool.or_self, List.length_set, Int.natCast_zero, Int.cast_ofNat_Int, hc35, hc37d, hc38d, hc39d, hc46d, hc47d]
    have hc39d := decide_eq_true hc39
    first | rw [if_pos hc39] at h | rw [if_pos hc39d] at h
    simp only [go_sem, seval, hc35, hc37d, hc38d, hc39d]
    refine sw (RX_guard_ndec rfl) (fun hc40 => ?_) (fun hc40 => ?_)
    · have hc40d := decide_eq_true hc40
      first | rw [if_pos hc40] at h | rw [if_pos hc40d] at h
      simp only [go_sem, seval, hc35, hc37d, hc38d, hc39d, hc40d]
      refine RX_guard_dec rfl (fun hc44 => ?_) (fun hc44 => ?_)
      · have hc44d := decide_eq_true hc44
        first | rw [if_pos hc44] at h | rw [if_pos hc44d] at h
        simp only [go_sem, seval, hc35, hc37d, hc38d, hc39d, hc40d, hc44d]
        refine hZ _ (pp ?_)
        refine hJ36 _ true ?_ h
        refine weak_roots ?_ ?_ <;> repeat' first | exact xn | exact rn | refine xc ?_ ?_ | refine rc ?_ ?_ ?_ | rfl | simp only [go_sem, seval, Bool.or_self, List.length_set, Int.natCast_zero, Int.cast_ofNat_Int, hc35, hc37d, hc38d, hc39d, hc40d, hc44d]
      have hc44d := decide_eq_false hc44
      first | rw [if_neg hc44] at h | rw [if_neg (ne_true_of_eq_false hc44d)] at h
      simp only [go_sem, seval, hc35, hc37d, hc38d, hc39d, hc40d, hc44d]
      refine RX_guard_dec rfl (fun hc45 => ?_) (fun hc45 => ?_)
      · have hc45d := decide_eq_true hc45
        first | rw [if_pos hc45] at h | rw [if_pos hc45d] at h
        simp only [go_sem, seval, hc35, hc37d, hc38d, hc39d, hc40d, hc44d, hc45d]
        refine hZ _ (pp ?_)
        refine hJ36 _ true ?_ h
        refine weak_roots ?_ ?_ <;> repeat' first | exact xn | exact rn | refine xc ?_ ?_ | refine rc ?_ ?_ ?_ | rfl | simp only [go_sem, seval, Bool.or_self, List.length_set, Int.natCast_zero, Int.cast_ofNat_Int, hc35, hc37d, hc38d, hc39d, hc40d, hc44d, hc45d]
      have hc45d := decide_eq_false hc45
      first | rw [if_neg hc45] at h | rw [if_neg (ne_true_of_eq_false hc45d)] at h
      simp only [go_sem, seval, hc35, hc37d, hc38d, hc39d, hc40d, hc44d, hc45d]
      refine hZ _ (pp ?_)
      refine hJ36 _ (decide (16 < ((a0.L.length : Nat) : Int))) ?_ h
      refine weak_roots ?_ ?_ <;> repeat' first | exact xn | exact rn | refine xc ?_ ?_ | refine rc ?_ ?_ ?_ | rfl | simp only [go_sem, seval, Bool.or_self, List.length_set, Int.natCast_zero, Int.cast_ofNat_Int, hc35, hc37d, hc38d, hc39d, hc40d, hc44d, hc45d]
    have hc40d := decide_eq_false hc40
    first | rw [if_neg hc40] at h | rw [if_neg (ne_true_of_eq_false hc40d)] at h
    simp only [go_sem, seval, hc35, hc37d, hc38d, hc39d, hc40d]
    refine RX_guard_ndec rfl (fun hc41 => ?_) (fun hc41 => ?_)
    · have hc41d := decide_eq_false hc41
      first | rw [if_neg hc41] at h | rw [if_neg (ne_true_of_eq_false hc41d)] at h
      simp only [go_sem, seval, hc35, hc37d, hc38d, hc39d, hc40d, hc41d]
      refine hZ _ (pp ?_)
      refine hJ36 _ true ?_ h
      refine weak_roots ?_ ?_ <;> repeat' first | exact xn | exact rn | refine xc ?_ ?_ | refine rc ?_ ?_ ?_ | rfl | simp only [go_sem, seval, Bool.or_self, List.length_set, Int.natCast_zero, Int.cast_ofNat_Int, hc35, hc37d, hc38d, hc39d, hc40d, hc41d]
    have hc41d := decide_eq_true hc41
    first | rw [if_pos hc41] at h | rw [if_pos hc41d] at h
    simp only [go_sem, seval, hc35, hc37d, hc38d, hc39d, hc40d, hc41d]
    refine RX_guard_dec rfl (fun hc42 => ?_) (fun hc42 => ?_)
    · have hc42d := decide_eq_true hc42
      first | rw [if_pos hc42] at h | rw [if_pos hc42d] at h
      simp only [go_sem, seval, hc35, hc37d, hc38d, hc39d, hc40d, hc41d, hc42d]
      refine hZ _ (pp ?_)
      refine hJ36 _ true ?_ h
      refine weak_roots ?_ ?_ <;> repeat' first | exact xn | exact rn | refine xc ?_ ?_ | refine rc ?_ ?_ ?_ | rfl | simp only [go_sem, seval, Bool.or_self, List.length_set, Int.natCast_zero, Int.cast_ofNat_Int, hc35, hc37d, hc38d, hc39d, hc40d, hc41d, hc42d]
    have hc42d := decide_eq_false hc42
    first | rw [if_neg hc42] at h | rw [if_neg (ne_true_of_eq_false hc42d)] at h
    simp only [go_sem, seval, hc35, hc37d, hc38d, hc39d, hc40d, hc41d, hc42d]
    refine RX_guard_dec rfl (fun hc43 => ?_) (fun hc43 => ?_)
    · have hc43d := decide_eq_true hc43
      first | rw [if_pos hc43] at h | rw [if_pos hc43d] at h
      simp only [go_sem, seval, hc35, hc37d, hc38d, hc39d, hc40d, hc41d, hc42d, hc43d]
      refine hZ _ (pp ?_)
      refine hJ36 _ true ?_ h
      refine weak_roots ?_ ?_ <;> repeat' first | exact xn | exact rn | refine xc ?_ ?_ | refine rc ?_ ?_ ?_ | rfl | simp only [go_sem, seval, Bool.or_self, List.length_set, Int.natCast_zero, Int.cast_ofNat_Int, hc35, hc37d, hc38d, hc39d, hc40d, hc41d, hc42d, hc43d]
    have hc43d := decide_eq_false hc43
    first | rw [if_neg hc43] at h | rw [if_neg (ne_true_of_eq_false hc43d)] at h
    simp only [go_sem, seval, hc35, hc37d, hc38d, hc39d, hc40d, hc41d, hc42d, hc43d]
    refine hZ _ (pp ?_)
    refine hJ36 _ (decide (16 < ((a0.L.length : Nat) : Int))) ?_ h
    refine weak_roots ?_ ?_ <;> repeat' first | exact xn | exact rn | refine xc ?_ ?_ | refine rc ?_ ?_ ?_ | rfl | simp only [go_sem, seval, Bool.or_self, List.length_set, Int.natCast_zero, Int.cast_ofNat_Int, hc35, hc37d, hc38d, hc39d, hc40d, hc41d, hc42d, hc43d]
  intro c6 h
  unfold ref1_ValidValue_J2 at h
  refine Wk_cond_bool rfl (fun hc48 => ?_) (fun hc48 => ?_)
  · rw [if_pos hc48] at h
    refine Wk_seq (Wk_regionZ fun Z hZ => ?_)
    simp only [go_sem, seval, hc35, hc48]
    refine hZ _ (pp ?_)
    refine Wk_ret (pp ?_)
    cases h
    simp only [go_sem, seval, hc35, hc48]
    exact ⟨_, rfl, RokI.h, PureI.h⟩
  rw [if_neg (ne_true_of_eq_false hc48)] at h
  refine Wk_skip (pp ?_)
  unfold ref1_ValidValue_J3 at h
  refine Wk_seq (Wk_seq (Wk_regionZ fun Z hZ => ?_))
  simp only [go_sem, seval, hc35, hc48]
  refine hZ _ (pp ?_)
  refine Wk_block (Wk_real fun hreal50 => ?_)
  have hl49 := hreal50.cell 1 4 (by simp only [go_sem, seval, Bool.or_self, List.length_set, Int.natCast_zero, Int.cast_ofNat_Int, hc35, hc48]; rfl) rfl
  rw [List.length_map] at hl49
  refine Wk_range (fun (v8 : Nat) (b : Unit) => ⟨tab 104 (updT (updT deadT 1 (.pref 1 [] 0 0)) 3 (.val (.int .i64 ((v8 : Nat) : Int)))), (upd RZ 1 (.sl true none 5 (some 1) [Value.row a0]))⟩) () h ?_ ?_
  · refine weak_roots ?_ ?_ <;> repeat' first | exact xn | exact rn | refine xc ?_ ?_ | refine rc ?_ ?_ ?_ | rfl | simp only [go_sem, seval, Bool.or_self, List.length_set, Int.natCast_zero, Int.cast_ofNat_Int, hc35, hc48]
  rintro v8 ⟨⟩ hi51 h -
  rcases (drop_cases a0.L v8 hi51).symm with ⟨hi51', _, hd54⟩ | ⟨x11, hi51', hx52, hd54⟩
  · rw [hd54] at h
    simp only [ref1_ValidValue_L1] at h
    refine Wk_seq (Wk_seq (Wk_regionZ fun Z hZ => ?_))
    simp only [go_sem, seval, hc35, hc48, hi51']
    refine hZ _ (pp ?_)
    try simp only [Int.ofNat_lt, hi51', if_true, if_false] at h
    refine Wk_cond_f rfl (Wk_exit (pp ?_))
    refine Wk_seq (Wk_regionZ fun Z hZ => ?_)
    simp only [go_sem, seval, hc35, hc48, hi51']
    refine hZ _ (pp ?_)
    refine Wk_ret (pp ?_)
    cases h
    simp only [go_sem, seval, hc35, hc48, hi51']
    exact ⟨_, rfl, RokI.h, PureI.h⟩
  rw [hd54] at h
  simp only [ref1_ValidValue_L1] at h
  have hw53 := wrap_succ hi51' hl49
  refine Wk_seq (Wk_seq (Wk_regionZ fun Z hZ => ?_))
  simp only [go_sem, seval, hc35, hc48, hx52, hi51', hw53]
  refine hZ _ (pp ?_)
  try simp only [Int.ofNat_lt, hi51', if_true, if_false] at h
  refine Wk_cond_t rfl (Wk_skip (pp ?_))
  refine Wk_seq (Wk_block (Wk_seq ?_))
  try rw [gx_nat hx52] at h
  refine Wk_regionZ fun Z hZ => ?_
  simp only [go_sem, seval, hc35, hc48, hx52, hi51', hw53]
  refine hZ _ (pp ?_)
  refine Wk_cond_dec rfl (fun hc55 => ?_) (fun hc55 => ?_)
  · have hc55d := decide_eq_true hc55
    first | rw [if_pos hc55] at h | rw [if_pos hc55d] at h
    refine Wk_seq (Wk_regionZ fun Z hZ => ?_)
    simp only [go_sem, seval, hc35, hc48, hx52, hi51', hw53, hc55d]
    refine hZ _ (pp ?_)
    refine Wk_ret (pp ?_)
    cases h
    simp only [go_sem, seval, hc35, hc48, hx52, hi51', hw53, hc55d]
    exact ⟨_, rfl, RokI.h, PureI.h⟩
  have hc55d := decide_eq_false hc55
  first | rw [if_neg hc55] at h | rw [if_neg (ne_true_of_eq_false hc55d)] at h
  refine Wk_skip (pp ?_)
  refine Wk_regionZ fun Z hZ => ?_
  simp only [go_sem, seval, hc35, hc48, hx52, hi51', hw53, hc55d]
  refine hZ _ (pp ?_)
  first | refine ⟨(), ?_, h⟩ | refine ⟨hi51', (), ?_, h⟩
  refine weak_roots ?_ ?_ <;> repeat' first | exact xn | exact rn | refine xc ?_ ?_ | refine rc ?_ ?_ ?_ | rfl | simp only [go_sem, seval, Bool.or_self, List.length_set, Int.natCast_zero, Int.cast_ofNat_Int, hc35, hc48, hx52, hi51', hw53, hc55d]
def fs_ref1_ValidValue (N : Nat) : FnS := { own := [], pure := true, fn := fun cs => match cs with
  | [c0] => (Value.decA c0).bind fun qc0 => (ref1_ValidValue N qc0).map fun r => .val (.bool r)
  | _ => none }
attribute [go_sem] fs_ref1_ValidValue
theorem fs_ref1_ValidValue_ok (N : Nat) : FSOk Try.prog 68 (fs_ref1_ValidValue N) := by
  refine ⟨fun cs r h => ?_, fun h => by cases h⟩
  simp only [fs_ref1_ValidValue] at h
  split at h
  · simp only [Option.bind_eq_some_iff, Option.map_eq_some_iff] at h
    obtain ⟨q0, h0, r', hr, rfl⟩ := h
    exact ((w_ref1_ValidValue N q0 r' hr).args (LeL.cons (Value.decA_le h0) (LeL.nil)))
  · cases h


noncomputable def G_ref24_validArgs (N d f : Nat) : Option FnS := glist [(14, 68, fs_ref1_ValidValue N)] d f
attribute [go_sem] G_ref24_validArgs
set_option maxHeartbeats 40000000 in
theorem w_ref24_validArgs (N : Nat) (a0 : (List Value)) (r : Bool) (h : ref24_validArgs N a0 = some r) : Con Try.prog 66 [] true [.sl false none 5 none (a0.map Value.row)] (.val (.bool r)) := by
  refine fun_ok4 (G := (G_ref24_validArgs N)) Try.func66 rfl (by decide) (by kernel_rfl) (gc 14 (fs_ref1_ValidValue_ok N) gn) [] mix (Nat.le_of_ble_eq_true rfl) ?_
  simp only [Try.f66]
  unfold ref24_validArgs at h
  refine Wk_seq (Wk_regionZ fun Z hZ => ?_)
  simp only [go_sem, seval]
  refine hZ _ (pp ?_)
  refine Wk_seq (Wk_seq (Wk_regionZ fun Z hZ => ?_))
  simp only [go_sem, seval]
  refine hZ _ (pp ?_)
  refine Wk_block (Wk_real fun hreal2 => ?_)
  have hl1 := hreal2.lenT 0 (by decide) (by simp only [go_sem, seval, Bool.or_self, List.length_set, Int.natCast_zero, Int.cast_ofNat_Int]; rfl)
  rw [List.length_map] at hl1
  refine Wk_range (fun (v2 : Nat) (b : Unit) => ⟨tab 27 (updT (updT deadT 0 (.sl false none 5 none (a0.map Value.row))) 3 (.val (.int .i64 ((v2 : Nat) : Int)))), RZ⟩) () h ?_ ?_
  · refine weak_roots ?_ ?_ <;> repeat' first | exact xn | exact rn | refine xc ?_ ?_ | refine rc ?_ ?_ ?_ | rfl | simp only [go_sem, seval, Bool.or_self, List.length_set, Int.natCast_zero, Int.cast_ofNat_Int]
  rintro v2 ⟨⟩ hi3 h -
  rcases (drop_cases a0 v2 hi3).symm with ⟨hi3', _, hd6⟩ | ⟨x5, hi3', hx4, hd6⟩
  · rw [hd6] at h
    simp only [ref24_validArgs_L1] at h
    refine Wk_seq (Wk_seq (Wk_regionZ fun Z hZ => ?_))
    simp only [go_sem, seval, hi3']
    refine hZ _ (pp ?_)
    try simp only [Int.ofNat_lt, hi3', if_true, if_false] at h
    refine Wk_cond_f rfl (Wk_exit (pp ?_))
    refine Wk_seq (Wk_regionZ fun Z hZ => ?_)
    simp only [go_sem, seval, hi3']
    refine hZ _ (pp ?_)
    refine Wk_ret (pp ?_)
    cases h
    simp only [go_sem, seval, hi3']
    exact ⟨_, rfl, RokI.h, PureI.h⟩
  rw [hd6] at h
  simp only [ref24_validArgs_L1] at h
  have hw5 := wrap_succ hi3' hl1
  refine Wk_seq (Wk_seq (Wk_regionZ fun Z hZ => ?_))
  simp only [go_sem, seval, hx4, hi3', hw5]
  refine hZ _ (pp ?_)
  try simp only [Int.ofNat_lt, hi3', if_true, if_false] at h
  refine Wk_cond_t rfl (Wk_skip (pp ?_))
  refine Wk_seq (Wk_block ?_)
  apply Wk_join1 (fun (c2 : Bool) => ⟨tab 27 (updT (updT (updT deadT 0 (.sl false none 5 none (a0.map Value.row))) 3 (.val (.int .i64 ((v2 : Nat) : Int)))) 23 (.val (.bool c2))), RZ⟩)
  · intro hJ7
    try rw [gx_nat hx4] at h
    obtain ⟨r3, hr8, h⟩ := Option.bind_eq_some_iff.1 h
    refine Wk_regionZ fun Z hZ => ?_
    simp only [go_sem, seval, hx4, hi3', hw5, hr8]
    refine RX_guard_nbool rfl (fun hc9 => ?_) (fun hc9 => ?_)
    · rw [if_neg (ne_true_of_eq_false hc9)] at h
      simp only [go_sem, seval, hx4, hi3', hw5, hr8, hc9]
      refine hZ _ (pp ?_)
      refine hJ7 _ true ?_ h
      refine weak_roots ?_ ?_ <;> repeat' first | exact xn | exact rn | refine xc ?_ ?_ | refine rc ?_ ?_ ?_ | rfl | simp only [go_sem, seval, Bool.or_self, List.length_set, Int.natCast_zero, Int.cast_ofNat_Int, hx4, hi3', hw5, hr8, hc9]
    rw [if_pos hc9] at h
    try rw [gx_nat hx4] at h
    simp only [go_sem, seval, hx4, hi3', hw5, hr8, hc9]
    refine hZ _ (pp ?_)
    refine hJ7 _ (decide (x5.Kind = 0)) ?_ h
    refine weak_roots ?_ ?_ <;> repeat' first | exact xn | exact rn | refine xc ?_ ?_ | refine rc ?_ ?_ ?_ | rfl | simp only [go_sem, seval, Bool.or_self, List.length_set, Int.natCast_zero, Int.cast_ofNat_Int, hx4, hi3', hw5, hr8, hc9]
  intro c2 h
  unfold ref24_validArgs_J1 at h
  refine Wk_cond_bool rfl (fun hc10 => ?_) (fun hc10 => ?_)
  · rw [if_pos hc10] at h
    refine Wk_seq (Wk_regionZ fun Z hZ => ?_)
    simp only [go_sem, seval, hx4, hi3', hw5, hc10]
    refine hZ _ (pp ?_)
    refine Wk_ret (pp ?_)
    cases h
    simp only [go_sem, seval, hx4, hi3', hw5, hc10]
    exact ⟨_, rfl, RokI.h, PureI.h⟩
  rw [if_neg (ne_true_of_eq_false hc10)] at h
  refine Wk_skip (pp ?_)
  refine Wk_regionZ fun Z hZ => ?_
  simp only [go_sem, seval, hx4, hi3', hw5, hc10]
  refine hZ _ (pp ?_)
  first | refine ⟨(), ?_, h⟩ | refine ⟨hi3', (), ?_, h⟩
  refine weak_roots ?_ ?_ <;> repeat' first | exact xn | exact rn | refine xc ?_ ?_ | refine rc ?_ ?_ ?_ | rfl | simp only [go_sem, seval, Bool.or_self, List.length_set, Int.natCast_zero, Int.cast_ofNat_Int, hx4, hi3', hw5, hc10]
def fs_ref24_validArgs (N : Nat) : FnS := { own := [], pure := true, fn := fun cs => match cs with
  | [c0] => ((decL 5 Value.dec) c0).bind fun qc0 => (ref24_validArgs N qc0).map fun r => .val (.bool r)
  | _ => none }
attribute [go_sem] fs_ref24_validArgs
theorem fs_ref24_validArgs_ok (N : Nat) : FSOk Try.prog 66 (fs_ref24_validArgs N) := by
  refine ⟨fun cs r h => ?_, fun h => by cases h⟩
  simp only [fs_ref24_validArgs] at h
  split at h
  · simp only [Option.bind_eq_some_iff, Option.map_eq_some_iff] at h
    obtain ⟨q0, h0, r', hr, rfl⟩ := h
    exact ((w_ref24_validArgs N q0 r' hr).args (LeL.cons (decL_le Value.dec_le h0) (LeL.nil)))
  · cases h


noncomputable def G_ref24_ValidRequest (N d f : Nat) : Option FnS := glist [(6, 64, fs_ref24_ValidName N), (21, 65, fs_ref24_validPath N), (27, 46, fs_ref14_ValidRef N), (33, 64, fs_ref24_ValidName N), (39, 66, fs_ref24_validArgs N), (73, 46, fs_ref14_ValidRef N)] d f
attribute [go_sem] G_ref24_ValidRequest
set_option maxHeartbeats 40000000 in
theorem w_ref24_ValidRequest (N : Nat) (a0 : Request) (r : Bool) (h : ref24_ValidRequest N a0 = some r) : Con Try.prog 18 [] true [.agg (Request.row a0)] (.val (.bool r)) := by
  refine fun_ok4 (G := (G_ref24_ValidRequest N)) Try.func18 rfl (by decide) (by kernel_rfl) (gc 6 (fs_ref24_ValidName_ok N) (gc 21 (fs_ref24_validPath_ok N) (gc 27 (fs_ref14_ValidRef_ok N) (gc 33 (fs_ref24_ValidName_ok N) (gc 39 (fs_ref24_validArgs_ok N) (gc 73 (fs_ref14_ValidRef_ok N) gn)))))) [] mix (Nat.le_of_ble_eq_true rfl) ?_
  simp only [Try.f18]
  unfold ref24_ValidRequest at h
  refine Wk_seq (Wk_regionZ fun Z hZ => ?_)
  simp only [go_sem, seval]
  refine hZ _ (pp ?_)
  refine Wk_seq ?_
  apply Wk_join1 (fun (c13 : Bool) => ⟨tab 75 (updT (updT deadT 1 (.pref 1 [] 0 0)) 60 (.val (.bool c13))), (upd RZ 1 (.sl true none 9 (some 1) [Request.row a0]))⟩)
  · intro hJ1
    obtain ⟨r14, hr2, h⟩ := Option.bind_eq_some_iff.1 h
    refine Wk_regionZ fun Z hZ => ?_
    simp only [go_sem, seval, hr2]
    refine RX_guard_nbool rfl (fun hc3 => ?_) (fun hc3 => ?_)
    · rw [if_neg (ne_true_of_eq_false hc3)] at h
      simp only [go_sem, seval, hr2, hc3]
      refine hZ _ (pp ?_)
      refine hJ1 _ true ?_ h
      refine weak_roots ?_ ?_ <;> repeat' first | exact xn | exact rn | refine xc ?_ ?_ | refine rc ?_ ?_ ?_ | rfl | simp only [go_sem, seval, Bool.or_self, List.length_set, Int.natCast_zero, Int.cast_ofNat_Int, hr2, hc3]
    rw [if_pos hc3] at h
    simp only [go_sem, seval, hr2, hc3]
    refine RX_guard_dec rfl (fun hc4 => ?_) (fun hc4 => ?_)
    · have hc4d := decide_eq_true hc4
      first | rw [if_pos hc4] at h | rw [if_pos hc4d] at h
      simp only [go_sem, seval, hr2, hc3, hc4d]
      refine hZ _ (pp ?_)
      refine hJ1 _ true ?_ h
      refine weak_roots ?_ ?_ <;> repeat' first | exact xn | exact rn | refine xc ?_ ?_ | refine rc ?_ ?_ ?_ | rfl | simp only [go_sem, seval, Bool.or_self, List.length_set, Int.natCast_zero, Int.cast_ofNat_Int, hr2, hc3, hc4d]
    have hc4d := decide_eq_false hc4
    first | rw [if_neg hc4] at h | rw [if_neg (ne_true_of_eq_false hc4d)] at h
    simp only [go_sem, seval, hr2, hc3, hc4d]
    refine RX_guard_dec rfl (fun hc5 => ?_) (fun hc5 => ?_)
    · have hc5d := decide_eq_true hc5
      first | rw [if_pos hc5] at h | rw [if_pos hc5d] at h
      simp only [go_sem, seval, hr2, hc3, hc4d, hc5d]
      refine hZ _ (pp ?_)
      refine hJ1 _ true ?_ h
      refine weak_roots ?_ ?_ <;> repeat' first | exact xn | exact rn | refine xc ?_ ?_ | refine rc ?_ ?_ ?_ | rfl | simp only [go_sem, seval, Bool.or_self, List.length_set, Int.natCast_zero, Int.cast_ofNat_Int, hr2, hc3, hc4d, hc5d]
    have hc5d := decide_eq_false hc5
    first | rw [if_neg hc5] at h | rw [if_neg (ne_true_of_eq_false hc5d)] at h
    obtain ⟨r15, hr6, h⟩ := Option.bind_eq_some_iff.1 h
    simp only [go_sem, seval, hr2, hc3, hc4d, hc5d, hr6]
    refine RX_guard_nbool rfl (fun hc7 => ?_) (fun hc7 => ?_)
    · rw [if_neg (ne_true_of_eq_false hc7)] at h
      simp only [go_sem, seval, hr2, hc3, hc4d, hc5d, hr6, hc7]
      refine hZ _ (pp ?_)
      refine hJ1 _ true ?_ h
      refine weak_roots ?_ ?_ <;> repeat' first | exact xn | exact rn | refine xc ?_ ?_ | refine rc ?_ ?_ ?_ | rfl | simp only [go_sem, seval, Bool.or_self, List.length_set, Int.natCast_zero, Int.cast_ofNat_Int, hr2, hc3, hc4d, hc5d, hr6, hc7]
    rw [if_pos hc7] at h
    obtain ⟨r16, hr8, h⟩ := Option.bind_eq_some_iff.1 h
    simp only [go_sem, seval, hr2, hc3, hc4d, hc5d, hr6, hc7, hr8]
    refine RX_guard_nbool rfl (fun hc9 => ?_) (fun hc9 => ?_)
    · rw [if_neg (ne_true_of_eq_false hc9)] at h
      simp only [go_sem, seval, hr2, hc3, hc4d, hc5d, hr6, hc7, hr8, hc9]
      refine hZ _ (pp ?_)
      refine hJ1 _ true ?_ h
      refine weak_roots ?_ ?_ <;> repeat' first | exact xn | exact rn | refine xc ?_ ?_ | refine rc ?_ ?_ ?_ | rfl | simp only [go_sem, seval, Bool.or_self, List.length_set, Int.natCast_zero, Int.cast_ofNat_Int, hr2, hc3, hc4d, hc5d, hr6, hc7, hr8, hc9]
    rw [if_pos hc9] at h
    obtain ⟨r17, hr10, h⟩ := Option.bind_eq_some_iff.1 h
    simp only [go_sem, seval, hr2, hc3, hc4d, hc5d, hr6, hc7, hr8, hc9, hr10]
    refine RX_guard_nbool rfl (fun hc11 => ?_) (fun hc11 => ?_)
    · rw [if_neg (ne_true_of_eq_false hc11)] at h
      simp only [go_sem, seval, hr2, hc3, hc4d, hc5d, hr6, hc7, hr8, hc9, hr10, hc11]
      refine hZ _ (pp ?_)
      refine hJ1 _ true ?_ h
      refine weak_roots ?_ ?_ <;> repeat' first | exact xn | exact rn | refine xc ?_ ?_ | refine rc ?_ ?_ ?_ | rfl | simp only [go_sem, seval, Bool.or_self, List.length_set, Int.natCast_zero, Int.cast_ofNat_Int, hr2, hc3, hc4d, hc5d, hr6, hc7, hr8, hc9, hr10, hc11]
    rw [if_pos hc11] at h
    obtain ⟨r18, hr12, h⟩ := Option.bind_eq_some_iff.1 h
    simp only [go_sem, seval, hr2, hc3, hc4d, hc5d, hr6, hc7, hr8, hc9, hr10, hc11, hr12]
    refine RX_guard_nbool rfl (fun hc13 => ?_) (fun hc13 => ?_)
    · rw [if_neg (ne_true_of_eq_false hc13)] at h
      simp only [go_sem, seval, hr2, hc3, hc4d, hc5d, hr6, hc7, hr8, hc9, hr10, hc11, hr12, hc13]
      refine hZ _ (pp ?_)
      refine hJ1 _ true ?_ h
      refine weak_roots ?_ ?_ <;> repeat' first | exact xn | exact rn | refine xc ?_ ?_ | refine rc ?_ ?_ ?_ | rfl | simp only [go_sem, seval, Bool.or_self, List.length_set, Int.natCast_zero, Int.cast_ofNat_Int, hr2, hc3, hc4d, hc5d, hr6, hc7, hr8, hc9, hr10, hc11, hr12, hc13]
    rw [if_pos hc13] at h
    simp only [go_sem, seval, hr2, hc3, hc4d, hc5d, hr6, hc7, hr8, hc9, hr10, hc11, hr12, hc13]
    refine RX_guard_ndec rfl (fun hc14 => ?_) (fun hc14 => ?_)
    · have hc14d := decide_eq_false hc14
      first | rw [if_neg hc14] at h | rw [if_neg (ne_true_of_eq_false hc14d)] at h
      simp only [go_sem, seval, hr2, hc3, hc4d, hc5d, hr6, hc7, hr8, hc9, hr10, hc11, hr12, hc13, hc14d]
      refine hZ _ (pp ?_)
      refine hJ1 _ true ?_ h
      refine weak_roots ?_ ?_ <;> repeat' first | exact xn | exact rn | refine xc ?_ ?_ | refine rc ?_ ?_ ?_ | rfl | simp only [go_sem, seval, Bool.or_self, List.length_set, Int.natCast_zero, Int.cast_ofNat_Int, hr2, hc3, hc4d, hc5d, hr6, hc7, hr8, hc9, hr10, hc11, hr12, hc13, hc14d]
    have hc14d := decide_eq_true hc14
    first | rw [if_pos hc14] at h | rw [if_pos hc14d] at h
    simp only [go_sem, seval, hr2, hc3, hc4d, hc5d, hr6, hc7, hr8, hc9, hr10, hc11, hr12, hc13, hc14d]
    refine RX_guard_dec rfl (fun hc15 => ?_) (fun hc15 => ?_)
    · have hc15d := decide_eq_true hc15
      first | rw [if_pos hc15] at h | rw [if_pos hc15d] at h
      simp only [go_sem, seval, hr2, hc3, hc4d, hc5d, hr6, hc7, hr8, hc9, hr10, hc11, hr12, hc13, hc14d, hc15d]
      refine hZ _ (pp ?_)
      refine hJ1 _ true ?_ h
      refine weak_roots ?_ ?_ <;> repeat' first | exact xn | exact rn | refine xc ?_ ?_ | refine rc ?_ ?_ ?_ | rfl | simp only [go_sem, seval, Bool.or_self, List.length_set, Int.natCast_zero, Int.cast_ofNat_Int, hr2, hc3, hc4d, hc5d, hr6, hc7, hr8, hc9, hr10, hc11, hr12, hc13, hc14d, hc15d]
    have hc15d := decide_eq_false hc15
    first | rw [if_neg hc15] at h | rw [if_neg (ne_true_of_eq_false hc15d)] at h
    simp only [go_sem, seval, hr2, hc3, hc4d, hc5d, hr6, hc7, hr8, hc9, hr10, hc11, hr12, hc13, hc14d, hc15d]
    refine hZ _ (pp ?_)
    refine hJ1 _ (decide (1099511627776 < a0.Txn)) ?_ h
    refine weak_roots ?_ ?_ <;> repeat' first | exact xn | exact rn | refine xc ?_ ?_ | refine rc ?_ ?_ ?_ | rfl | simp only [go_sem, seval, Bool.or_self, List.length_set, Int.natCast_zero, Int.cast_ofNat_Int, hr2, hc3, hc4d, hc5d, hr6, hc7, hr8, hc9, hr10, hc11, hr12, hc13, hc14d, hc15d]
  intro c13 h
  unfold ref24_ValidRequest_J1 at h
  refine Wk_cond_bool rfl (fun hc16 => ?_) (fun hc16 => ?_)
  · rw [if_pos hc16] at h
    refine Wk_seq (Wk_regionZ fun Z hZ => ?_)
    simp only [go_sem, seval, hc16]
    refine hZ _ (pp ?_)
    refine Wk_ret (pp ?_)
    cases h
    simp only [go_sem, seval, hc16]
    exact ⟨_, rfl, RokI.h, PureI.h⟩
  rw [if_neg (ne_true_of_eq_false hc16)] at h
  refine Wk_skip (pp ?_)
  unfold ref24_ValidRequest_J2 at h
  refine Wk_seq (Wk_seq (Wk_regionZ fun Z hZ => ?_))
  simp only [go_sem, seval, hc16]
  refine hZ _ (pp ?_)
  refine Wk_block (Wk_real fun hreal18 => ?_)
  have hl17 := hreal18.cell 1 7 (by simp only [go_sem, seval, Bool.or_self, List.length_set, Int.natCast_zero, Int.cast_ofNat_Int, hc16]; rfl) rfl
  rw [List.length_map] at hl17
  refine Wk_range (fun (v10 : Nat) (b : Unit) => ⟨tab 75 (updT (updT deadT 1 (.pref 1 [] 0 0)) 3 (.val (.int .i64 ((v10 : Nat) : Int)))), (upd RZ 1 (.sl true none 9 (some 1) [Request.row a0]))⟩) () h ?_ ?_
  · refine weak_roots ?_ ?_ <;> repeat' first | exact xn | exact rn | refine xc ?_ ?_ | refine rc ?_ ?_ ?_ | rfl | simp only [go_sem, seval, Bool.or_self, List.length_set, Int.natCast_zero, Int.cast_ofNat_Int, hc16]
  rintro v10 ⟨⟩ hi19 h -
  rcases (drop_cases a0.Chain v10 hi19).symm with ⟨hi19', _, hd22⟩ | ⟨x13, hi19', hx20, hd22⟩
  · rw [hd22] at h
    simp only [ref24_ValidRequest_L1] at h
    refine Wk_seq (Wk_seq (Wk_regionZ fun Z hZ => ?_))
    simp only [go_sem, seval, hc16, hi19']
    refine hZ _ (pp ?_)
    try simp only [Int.ofNat_lt, hi19', if_true, if_false] at h
    refine Wk_cond_f rfl (Wk_exit (pp ?_))
    refine Wk_seq (Wk_regionZ fun Z hZ => ?_)
    simp only [go_sem, seval, hc16, hi19']
    refine hZ _ (pp ?_)
    refine Wk_ret (pp ?_)
    cases h
    simp only [go_sem, seval, hc16, hi19']
    exact ⟨_, rfl, RokI.h, PureI.h⟩
  rw [hd22] at h
  simp only [ref24_ValidRequest_L1] at h
  have hw21 := wrap_succ hi19' hl17
  refine Wk_seq (Wk_seq (Wk_regionZ fun Z hZ => ?_))
  simp only [go_sem, seval, hc16, hx20, hi19', hw21]
  refine hZ _ (pp ?_)
  try simp only [Int.ofNat_lt, hi19', if_true, if_false] at h
  refine Wk_cond_t rfl (Wk_skip (pp ?_))
  refine Wk_seq (Wk_block (Wk_seq ?_))
  try rw [gx_nat hx20] at h
  obtain ⟨r19, hr23, h⟩ := Option.bind_eq_some_iff.1 h
  refine Wk_regionZ fun Z hZ => ?_
  simp only [go_sem, seval, hc16, hx20, hi19', hw21, hr23]
  refine hZ _ (pp ?_)
  refine Wk_cond_nbool rfl (fun hc24 => ?_) (fun hc24 => ?_)
  · rw [if_neg (ne_true_of_eq_false hc24)] at h
    refine Wk_seq (Wk_regionZ fun Z hZ => ?_)
    simp only [go_sem, seval, hc16, hx20, hi19', hw21, hr23, hc24]
    refine hZ _ (pp ?_)
    refine Wk_ret (pp ?_)
    cases h
    simp only [go_sem, seval, hc16, hx20, hi19', hw21, hr23, hc24]
    exact ⟨_, rfl, RokI.h, PureI.h⟩
  rw [if_pos hc24] at h
  refine Wk_skip (pp ?_)
  refine Wk_regionZ fun Z hZ => ?_
  simp only [go_sem, seval, hc16, hx20, hi19', hw21, hr23, hc24]
  refine hZ _ (pp ?_)
  first | refine ⟨(), ?_, h⟩ | refine ⟨hi19', (), ?_, h⟩
  refine weak_roots ?_ ?_ <;> repeat' first | exact xn | exact rn | refine xc ?_ ?_ | refine rc ?_ ?_ ?_ | rfl | simp only [go_sem, seval, Bool.or_self, List.length_set, Int.natCast_zero, Int.cast_ofNat_Int, hc16, hx20, hi19', hw21, hr23, hc24]
def fs_ref24_ValidRequest (N : Nat) : FnS := { own := [], pure := true, fn := fun cs => match cs with
  | [c0] => (Request.decA c0).bind fun qc0 => (ref24_ValidRequest N qc0).map fun r => .val (.bool r)
  | _ => none }
attribute [go_sem] fs_ref24_ValidRequest
theorem fs_ref24_ValidRequest_ok (N : Nat) : FSOk Try.prog 18 (fs_ref24_ValidRequest N) := by
  refine ⟨fun cs r h => ?_, fun h => by cases h⟩
  simp only [fs_ref24_ValidRequest] at h
  split at h
  · simp only [Option.bind_eq_some_iff, Option.map_eq_some_iff] at h
    obtain ⟨q0, h0, r', hr, rfl⟩ := h
    exact ((w_ref24_ValidRequest N q0 r' hr).args (LeL.cons (Request.decA_le h0) (LeL.nil)))
  · cases h


set_option maxHeartbeats 40000000 in
theorem w_ref1_SameInts (N : Nat) (a0 : (List Int)) (a1 : (List Int)) (r : Bool) (h : ref1_SameInts N a0 a1 = some r) : Con Try.prog 48 [] true [.sl false none 1 none (a0.map (rowI .i64)), .sl false none 1 none (a1.map (rowI .i64))] (.val (.bool r)) := by
  refine fun_ok4 (G := (glist [])) Try.func48 rfl (by decide) (by kernel_rfl) gn [] mix (Nat.le_of_ble_eq_true rfl) ?_
  simp only [Try.f48]
  unfold ref1_SameInts at h
  refine Wk_seq (Wk_regionZ fun Z hZ => ?_)
  simp only [go_sem, seval]
  refine hZ _ (pp ?_)
  refine Wk_seq (Wk_seq (Wk_regionZ fun Z hZ => ?_))
  simp only [go_sem, seval]
  refine hZ _ (pp ?_)
  refine Wk_cond_ndec rfl (fun hc1 => ?_) (fun hc1 => ?_)
  · have hc1d := decide_eq_false hc1
    first | rw [if_neg hc1] at h | rw [if_neg (ne_true_of_eq_false hc1d)] at h
    refine Wk_seq (Wk_regionZ fun Z hZ => ?_)
    simp only [go_sem, seval, hc1d]
    refine hZ _ (pp ?_)
    refine Wk_ret (pp ?_)
    cases h
    simp only [go_sem, seval, hc1d]
    exact ⟨_, rfl, RokI.h, PureI.h⟩
  have hc1d := decide_eq_true hc1
  first | rw [if_pos hc1] at h | rw [if_pos hc1d] at h
  refine Wk_skip (pp ?_)
  refine Wk_seq (Wk_seq (Wk_regionZ fun Z hZ => ?_))
  simp only [go_sem, seval, hc1d]
  refine hZ _ (pp ?_)
  refine Wk_block (Wk_real fun hreal3 => ?_)
  have hl2 := hreal3.lenT 0 (by decide) (by simp only [go_sem, seval, Bool.or_self, List.length_set, Int.natCast_zero, Int.cast_ofNat_Int, hc1d]; rfl)
  rw [List.length_map] at hl2
  refine Wk_range (fun (v3 : Nat) (b : Unit) => ⟨tab 26 (updT (updT (updT deadT 0 (.sl false none 1 none (a0.map (rowI .i64)))) 1 (.sl false none 1 none (a1.map (rowI .i64)))) 5 (.val (.int .i64 ((v3 : Nat) : Int)))), RZ⟩) () h ?_ ?_
  · refine weak_roots ?_ ?_ <;> repeat' first | exact xn | exact rn | refine xc ?_ ?_ | refine rc ?_ ?_ ?_ | rfl | simp only [go_sem, seval, Bool.or_self, List.length_set, Int.natCast_zero, Int.cast_ofNat_Int, hc1d]
  rintro v3 ⟨⟩ hi4 h -
  rcases (drop_cases a0 v3 hi4).symm with ⟨hi4', _, hd7⟩ | ⟨x6, hi4', hx5, hd7⟩
  · rw [hd7] at h
    simp only [ref1_SameInts_L1] at h
    refine Wk_seq (Wk_seq (Wk_regionZ fun Z hZ => ?_))
    simp only [go_sem, seval, hc1d, hi4']
    refine hZ _ (pp ?_)
    try simp only [Int.ofNat_lt, hi4', if_true, if_false] at h
    refine Wk_cond_f rfl (Wk_exit (pp ?_))
    refine Wk_seq (Wk_regionZ fun Z hZ => ?_)
    simp only [go_sem, seval, hc1d, hi4']
    refine hZ _ (pp ?_)
    refine Wk_ret (pp ?_)
    cases h
    simp only [go_sem, seval, hc1d, hi4']
    exact ⟨_, rfl, RokI.h, PureI.h⟩
  rw [hd7] at h
  simp only [ref1_SameInts_L1] at h
  have hw6 := wrap_succ hi4' hl2
  refine Wk_seq (Wk_seq (Wk_regionZ fun Z hZ => ?_))
  simp only [go_sem, seval, hc1d, hx5, hi4', hw6]
  refine hZ _ (pp ?_)
  try simp only [Int.ofNat_lt, hi4', if_true, if_false] at h
  refine Wk_cond_t rfl (Wk_skip (pp ?_))
  refine Wk_seq (Wk_block (Wk_seq ?_))
  try rw [gx_nat hx5] at h
  obtain ⟨x1, hb8, hx9, h⟩ := gx_some h
  try simp only [Int.toNat_natCast, Int.reduceToNat, Int.toNat_zero] at hx9
  try simp only [Int.ofNat_lt, Int.natCast_nonneg, true_and] at hb8
  refine Wk_regionD fun Z hZ => ?_
  simp only [go_sem, seval, hc1d, hx5, hi4', hw6, hb8, hx9]
  repeat with_reducible refine and_bar (by kernel_rfl) ?_
  refine hZ _ (by kernel_rfl) (pp ?_)
  refine Wk_cond_ndec rfl (fun hc10 => ?_) (fun hc10 => ?_)
  · have hc10d := decide_eq_false hc10
    first | rw [if_neg hc10] at h | rw [if_neg (ne_true_of_eq_false hc10d)] at h
    refine Wk_seq (Wk_regionZ fun Z hZ => ?_)
    simp only [go_sem, seval, hc1d, hx5, hi4', hw6, hb8, hx9, hc10d]
    refine hZ _ (pp ?_)
    refine Wk_ret (pp ?_)
    cases h
    simp only [go_sem, seval, hc1d, hx5, hi4', hw6, hb8, hx9, hc10d]
    exact ⟨_, rfl, RokI.h, PureI.h⟩
  have hc10d := decide_eq_true hc10
  first | rw [if_pos hc10] at h | rw [if_pos hc10d] at h
  refine Wk_skip (pp ?_)
  refine Wk_regionZ fun Z hZ => ?_
  simp only [go_sem, seval, hc1d, hx5, hi4', hw6, hb8, hx9, hc10d]
  refine hZ _ (pp ?_)
  first | refine ⟨(), ?_, h⟩ | refine ⟨hi4', (), ?_, h⟩
  refine weak_roots ?_ ?_ <;> repeat' first | exact xn | exact rn | refine xc ?_ ?_ | refine rc ?_ ?_ ?_ | rfl | simp only [go_sem, seval, Bool.or_self, List.length_set, Int.natCast_zero, Int.cast_ofNat_Int, hc1d, hx5, hi4', hw6, hb8, hx9, hc10d]
def fs_ref1_SameInts (N : Nat) : FnS := { own := [], pure := true, fn := fun cs => match cs with
  | [c0, c1] => ((decL 1 (dec1 (decI .i64))) c0).bind fun qc0 => ((decL 1 (dec1 (decI .i64))) c1).bind fun qc1 => (ref1_SameInts N qc0 qc1).map fun r => .val (.bool r)
  | _ => none }
attribute [go_sem] fs_ref1_SameInts
theorem fs_ref1_SameInts_ok (N : Nat) : FSOk Try.prog 48 (fs_ref1_SameInts N) := by
  refine ⟨fun cs r h => ?_, fun h => by cases h⟩
  simp only [fs_ref1_SameInts] at h
  split at h
  · simp only [Option.bind_eq_some_iff, Option.map_eq_some_iff] at h
    obtain ⟨q0, h0, q1, h1, r', hr, rfl⟩ := h
    exact ((w_ref1_SameInts N q0 q1 r' hr).args (LeL.cons (decL_le (decI1_le .i64) h0) (LeL.cons (decL_le (decI1_le .i64) h1) (LeL.nil))))
  · cases h


noncomputable def G_ref24_Descends (N d f : Nat) : Option FnS := glist [(35, 48, fs_ref1_SameInts N)] d f
attribute [go_sem] G_ref24_Descends
set_option maxHeartbeats 40000000 in
theorem w_ref24_Descends (N : Nat) (a0 : Request) (a1 : Request) (r : Bool) (h : ref24_Descends N a0 a1 = some r) : Con Try.prog 24 [] true [.agg (Request.row a0), .agg (Request.row a1)] (.val (.bool r)) := by
  refine fun_ok4 (G := (G_ref24_Descends N)) Try.func24 rfl (by decide) (by kernel_rfl) (gc 35 (fs_ref1_SameInts_ok N) gn) [] mix (Nat.le_of_ble_eq_true rfl) ?_
  simp only [Try.f24]
  unfold ref24_Descends at h
  refine Wk_seq (Wk_regionZ fun Z hZ => ?_)
  simp only [go_sem, seval]
  refine hZ _ (pp ?_)
  refine Wk_seq (Wk_regionD fun Z hZ => ?_)
  simp only [go_sem, seval]
  repeat with_reducible refine and_bar (by kernel_rfl) ?_
  refine sw (RX_guard_bool rfl) (fun hc1 => ?_) (fun hc1 => ?_)
  · rw [if_neg (ne_true_of_eq_false hc1)] at h
    simp only [go_sem, seval, hc1]
    repeat with_reducible refine and_bar (by kernel_rfl) ?_
    refine hZ _ (by kernel_rfl) (pp ?_)
    refine Wk_ret (pp ?_)
    cases h
    simp only [go_sem, seval, hc1]
    exact ⟨_, rfl, RokI.h, PureI.h⟩
  rw [if_pos hc1] at h
  simp only [go_sem, seval, hc1]
  repeat with_reducible refine and_bar (by kernel_rfl) ?_
  refine sw (RX_guard_dec rfl) (fun hc2 => ?_) (fun hc2 => ?_)
  · have hc2d := decide_eq_false hc2
    first | rw [if_neg hc2] at h | rw [if_neg (ne_true_of_eq_false hc2d)] at h
    simp only [go_sem, seval, hc1, hc2d]
    repeat with_reducible refine and_bar (by kernel_rfl) ?_
    refine hZ _ (by kernel_rfl) (pp ?_)
    refine Wk_ret (pp ?_)
    cases h
    simp only [go_sem, seval, hc1, hc2d]
    exact ⟨_, rfl, RokI.h, PureI.h⟩
  have hc2d := decide_eq_true hc2
  first | rw [if_pos hc2] at h | rw [if_pos hc2d] at h
  simp only [go_sem, seval, hc1, hc2d]
  repeat with_reducible refine and_bar (by kernel_rfl) ?_
  refine sw (RX_guard_dec rfl) (fun hc3 => ?_) (fun hc3 => ?_)
  · have hc3d := decide_eq_false hc3
    first | rw [if_neg hc3] at h | rw [if_neg (ne_true_of_eq_false hc3d)] at h
    simp only [go_sem, seval, hc1, hc2d, hc3d]
    repeat with_reducible refine and_bar (by kernel_rfl) ?_
    refine hZ _ (by kernel_rfl) (pp ?_)
    refine Wk_ret (pp ?_)
    cases h
    simp only [go_sem, seval, hc1, hc2d, hc3d]
    exact ⟨_, rfl, RokI.h, PureI.h⟩
  have hc3d := decide_eq_true hc3
  first | rw [if_pos hc3] at h | rw [if_pos hc3d] at h
  obtain ⟨hs4, h⟩ := slx_some h
  try simp only [Int.toNat_natCast, Int.reduceToNat, Int.toNat_zero, Nat.sub_zero, List.drop_zero] at hs4 h
  obtain ⟨r1, hr5, h⟩ := Option.bind_eq_some_iff.1 h
  simp only [go_sem, seval, hc1, hc2d, hc3d, hs4, Nat.sub_zero, Nat.zero_le, hr5]
  repeat with_reducible refine and_bar (by kernel_rfl) ?_
  refine hZ _ (by kernel_rfl) (pp ?_)
  refine Wk_ret (pp ?_)
  cases h
  simp only [go_sem, seval, hc1, hc2d, hc3d, hs4, Nat.sub_zero, Nat.zero_le, hr5]
  exact ⟨_, rfl, RokI.h, PureI.h⟩
def fs_ref24_Descends (N : Nat) : FnS := { own := [], pure := true, fn := fun cs => match cs with
  | [c0, c1] => (Request.decA c0).bind fun qc0 => (Request.decA c1).bind fun qc1 => (ref24_Descends N qc0 qc1).map fun r => .val (.bool r)
  | _ => none }
attribute [go_sem] fs_ref24_Descends
theorem fs_ref24_Descends_ok (N : Nat) : FSOk Try.prog 24 (fs_ref24_Descends N) := by
  refine ⟨fun cs r h => ?_, fun h => by cases h⟩
  simp only [fs_ref24_Descends] at h
  split at h
  · simp only [Option.bind_eq_some_iff, Option.map_eq_some_iff] at h
    obtain ⟨q0, h0, q1, h1, r', hr, rfl⟩ := h
    exact ((w_ref24_Descends N q0 q1 r' hr).args (LeL.cons (Request.decA_le h0) (LeL.cons (Request.decA_le h1) (LeL.nil))))
  · cases h


noncomputable def G_ref24_SameID (N d f : Nat) : Option FnS := glist [(23, 48, fs_ref1_SameInts N)] d f
attribute [go_sem] G_ref24_SameID
set_option maxHeartbeats 40000000 in
theorem w_ref24_SameID (N : Nat) (a0 : Request) (a1 : ByteArray) (a2 : Int) (a3 : (List Int)) (r : Bool) (h : ref24_SameID N a0 a1 a2 a3 = some r) : Con Try.prog 22 [] true [.agg (Request.row a0), .val (.string a1), .val (.int .i64 a2), .sl false none 1 none (a3.map (rowI .i64))] (.val (.bool r)) := by
  refine fun_ok4 (G := (G_ref24_SameID N)) Try.func22 rfl (by decide) (by kernel_rfl) (gc 23 (fs_ref1_SameInts_ok N) gn) [] mix (Nat.le_of_ble_eq_true rfl) ?_
  simp only [Try.f22]
  unfold ref24_SameID at h
  refine Wk_seq (Wk_regionZ fun Z hZ => ?_)
  simp only [go_sem, seval]
  refine hZ _ (pp ?_)
  refine Wk_seq (Wk_regionZ fun Z hZ => ?_)
  simp only [go_sem, seval]
  refine sw (RX_guard_bool rfl) (fun hc1 => ?_) (fun hc1 => ?_)
  · rw [if_neg (ne_true_of_eq_false hc1)] at h
    simp only [go_sem, seval, hc1]
    refine hZ _ (pp ?_)
    refine Wk_ret (pp ?_)
    cases h
    simp only [go_sem, seval, hc1]
    exact ⟨_, rfl, RokI.h, PureI.h⟩
  rw [if_pos hc1] at h
  simp only [go_sem, seval, hc1]
  refine RX_guard_dec rfl (fun hc2 => ?_) (fun hc2 => ?_)
  · have hc2d := decide_eq_true hc2
    first | rw [if_pos hc2] at h | rw [if_pos hc2d] at h
    obtain ⟨r1, hr3, h⟩ := Option.bind_eq_some_iff.1 h
    simp only [go_sem, seval, hc1, hc2d, hr3]
    refine hZ _ (pp ?_)
    refine Wk_ret (pp ?_)
    cases h
    simp only [go_sem, seval, hc1, hc2d, hr3]
    exact ⟨_, rfl, RokI.h, PureI.h⟩
  have hc2d := decide_eq_false hc2
  first | rw [if_neg hc2] at h | rw [if_neg (ne_true_of_eq_false hc2d)] at h
  simp only [go_sem, seval, hc1, hc2d]
  refine hZ _ (pp ?_)
  refine Wk_ret (pp ?_)
  cases h
  simp only [go_sem, seval, hc1, hc2d]
  exact ⟨_, rfl, RokI.h, PureI.h⟩
def fs_ref24_SameID (N : Nat) : FnS := { own := [], pure := true, fn := fun cs => match cs with
  | [c0, c1, c2, c3] => (Request.decA c0).bind fun qc0 => (decS c1).bind fun qc1 => ((decI .i64) c2).bind fun qc2 => ((decL 1 (dec1 (decI .i64))) c3).bind fun qc3 => (ref24_SameID N qc0 qc1 qc2 qc3).map fun r => .val (.bool r)
  | _ => none }
attribute [go_sem] fs_ref24_SameID
theorem fs_ref24_SameID_ok (N : Nat) : FSOk Try.prog 22 (fs_ref24_SameID N) := by
  refine ⟨fun cs r h => ?_, fun h => by cases h⟩
  simp only [fs_ref24_SameID] at h
  split at h
  · simp only [Option.bind_eq_some_iff, Option.map_eq_some_iff] at h
    obtain ⟨q0, h0, q1, h1, q2, h2, q3, h3, r', hr, rfl⟩ := h
    exact ((w_ref24_SameID N q0 q1 q2 q3 r' hr).args (LeL.cons (Request.decA_le h0) (LeL.cons (decS_le h1) (LeL.cons (decI_le h2) (LeL.cons (decL_le (decI1_le .i64) h3) (LeL.nil))))))
  · cases h


set_option maxHeartbeats 40000000 in
theorem w_ref24_SameRefs (N : Nat) (a0 : (List Ref)) (a1 : (List Ref)) (r : Bool) (h : ref24_SameRefs N a0 a1 = some r) : Con Try.prog 70 [] true [.sl false none 2 none (a0.map Ref.row), .sl false none 2 none (a1.map Ref.row)] (.val (.bool r)) := by
  refine fun_ok4 (G := (glist [])) Try.func70 rfl (by decide) (by kernel_rfl) gn [] mix (Nat.le_of_ble_eq_true rfl) ?_
  simp only [Try.f70]
  unfold ref24_SameRefs at h
  refine Wk_seq (Wk_regionZ fun Z hZ => ?_)
  simp only [go_sem, seval]
  refine hZ _ (pp ?_)
  refine Wk_seq (Wk_seq (Wk_regionZ fun Z hZ => ?_))
  simp only [go_sem, seval]
  refine hZ _ (pp ?_)
  refine Wk_cond_ndec rfl (fun hc1 => ?_) (fun hc1 => ?_)
  · have hc1d := decide_eq_false hc1
    first | rw [if_neg hc1] at h | rw [if_neg (ne_true_of_eq_false hc1d)] at h
    refine Wk_seq (Wk_regionZ fun Z hZ => ?_)
    simp only [go_sem, seval, hc1d]
    refine hZ _ (pp ?_)
    refine Wk_ret (pp ?_)
    cases h
    simp only [go_sem, seval, hc1d]
    exact ⟨_, rfl, RokI.h, PureI.h⟩
  have hc1d := decide_eq_true hc1
  first | rw [if_pos hc1] at h | rw [if_pos hc1d] at h
  refine Wk_skip (pp ?_)
  refine Wk_seq (Wk_seq (Wk_regionZ fun Z hZ => ?_))
  simp only [go_sem, seval, hc1d]
  refine hZ _ (pp ?_)
  refine Wk_block (Wk_real fun hreal3 => ?_)
  have hl2 := hreal3.lenT 0 (by decide) (by simp only [go_sem, seval, Bool.or_self, List.length_set, Int.natCast_zero, Int.cast_ofNat_Int, hc1d]; rfl)
  rw [List.length_map] at hl2
  refine Wk_range (fun (v3 : Nat) (b : Unit) => ⟨tab 26 (updT (updT (updT deadT 0 (.sl false none 2 none (a0.map Ref.row))) 1 (.sl false none 2 none (a1.map Ref.row))) 5 (.val (.int .i64 ((v3 : Nat) : Int)))), RZ⟩) () h ?_ ?_
  · refine weak_roots ?_ ?_ <;> repeat' first | exact xn | exact rn | refine xc ?_ ?_ | refine rc ?_ ?_ ?_ | rfl | simp only [go_sem, seval, Bool.or_self, List.length_set, Int.natCast_zero, Int.cast_ofNat_Int, hc1d]
  rintro v3 ⟨⟩ hi4 h -
  rcases (drop_cases a0 v3 hi4).symm with ⟨hi4', _, hd7⟩ | ⟨x6, hi4', hx5, hd7⟩
  · rw [hd7] at h
    simp only [ref24_SameRefs_L1] at h
    refine Wk_seq (Wk_seq (Wk_regionZ fun Z hZ => ?_))
    simp only [go_sem, seval, hc1d, hi4']
    refine hZ _ (pp ?_)
    try simp only [Int.ofNat_lt, hi4', if_true, if_false] at h
    refine Wk_cond_f rfl (Wk_exit (pp ?_))
    refine Wk_seq (Wk_regionZ fun Z hZ => ?_)
    simp only [go_sem, seval, hc1d, hi4']
    refine hZ _ (pp ?_)
    refine Wk_ret (pp ?_)
    cases h
    simp only [go_sem, seval, hc1d, hi4']
    exact ⟨_, rfl, RokI.h, PureI.h⟩
  rw [hd7] at h
  simp only [ref24_SameRefs_L1] at h
  have hw6 := wrap_succ hi4' hl2
  refine Wk_seq (Wk_seq (Wk_regionZ fun Z hZ => ?_))
  simp only [go_sem, seval, hc1d, hx5, hi4', hw6]
  refine hZ _ (pp ?_)
  try simp only [Int.ofNat_lt, hi4', if_true, if_false] at h
  refine Wk_cond_t rfl (Wk_skip (pp ?_))
  refine Wk_seq (Wk_block (Wk_seq ?_))
  try rw [gx_nat hx5] at h
  obtain ⟨x1, hb8, hx9, h⟩ := gx_some h
  try simp only [Int.toNat_natCast, Int.reduceToNat, Int.toNat_zero] at hx9
  try simp only [Int.ofNat_lt, Int.natCast_nonneg, true_and] at hb8
  refine Wk_regionD fun Z hZ => ?_
  simp only [go_sem, seval, hc1d, hx5, hi4', hw6, hb8, hx9]
  repeat with_reducible refine and_bar (by kernel_rfl) ?_
  refine hZ _ (by kernel_rfl) (pp ?_)
  refine Wk_cond_nbool rfl (fun hc10 => ?_) (fun hc10 => ?_)
  · rw [if_neg (ne_true_of_eq_false hc10)] at h
    refine Wk_seq (Wk_regionZ fun Z hZ => ?_)
    simp only [go_sem, seval, hc1d, hx5, hi4', hw6, hb8, hx9, hc10]
    refine hZ _ (pp ?_)
    refine Wk_ret (pp ?_)
    cases h
    simp only [go_sem, seval, hc1d, hx5, hi4', hw6, hb8, hx9, hc10]
    exact ⟨_, rfl, RokI.h, PureI.h⟩
  rw [if_pos hc10] at h
  refine Wk_skip (pp ?_)
  refine Wk_regionZ fun Z hZ => ?_
  simp only [go_sem, seval, hc1d, hx5, hi4', hw6, hb8, hx9, hc10]
  refine hZ _ (pp ?_)
  first | refine ⟨(), ?_, h⟩ | refine ⟨hi4', (), ?_, h⟩
  refine weak_roots ?_ ?_ <;> repeat' first | exact xn | exact rn | refine xc ?_ ?_ | refine rc ?_ ?_ ?_ | rfl | simp only [go_sem, seval, Bool.or_self, List.length_set, Int.natCast_zero, Int.cast_ofNat_Int, hc1d, hx5, hi4', hw6, hb8, hx9, hc10]
def fs_ref24_SameRefs (N : Nat) : FnS := { own := [], pure := true, fn := fun cs => match cs with
  | [c0, c1] => ((decL 2 Ref.dec) c0).bind fun qc0 => ((decL 2 Ref.dec) c1).bind fun qc1 => (ref24_SameRefs N qc0 qc1).map fun r => .val (.bool r)
  | _ => none }
attribute [go_sem] fs_ref24_SameRefs
theorem fs_ref24_SameRefs_ok (N : Nat) : FSOk Try.prog 70 (fs_ref24_SameRefs N) := by
  refine ⟨fun cs r h => ?_, fun h => by cases h⟩
  simp only [fs_ref24_SameRefs] at h
  split at h
  · simp only [Option.bind_eq_some_iff, Option.map_eq_some_iff] at h
    obtain ⟨q0, h0, q1, h1, r', hr, rfl⟩ := h
    exact ((w_ref24_SameRefs N q0 q1 r' hr).args (LeL.cons (decL_le Ref.dec_le h0) (LeL.cons (decL_le Ref.dec_le h1) (LeL.nil))))
  · cases h


set_option maxHeartbeats 40000000 in
theorem w_ref1_SameStrings (N : Nat) (a0 : (List ByteArray)) (a1 : (List ByteArray)) (r : Bool) (h : ref1_SameStrings N a0 a1 = some r) : Con Try.prog 92 [] true [.sl false none 1 none (a0.map rowS), .sl false none 1 none (a1.map rowS)] (.val (.bool r)) := by
  refine fun_ok4 (G := (glist [])) Try.func92 rfl (by decide) (by kernel_rfl) gn [] mix (Nat.le_of_ble_eq_true rfl) ?_
  simp only [Try.f92]
  unfold ref1_SameStrings at h
  refine Wk_seq (Wk_regionZ fun Z hZ => ?_)
  simp only [go_sem, seval]
  refine hZ _ (pp ?_)
  refine Wk_seq (Wk_seq (Wk_regionZ fun Z hZ => ?_))
  simp only [go_sem, seval]
  refine hZ _ (pp ?_)
  refine Wk_cond_ndec rfl (fun hc1 => ?_) (fun hc1 => ?_)
  · have hc1d := decide_eq_false hc1
    first | rw [if_neg hc1] at h | rw [if_neg (ne_true_of_eq_false hc1d)] at h
    refine Wk_seq (Wk_regionZ fun Z hZ => ?_)
    simp only [go_sem, seval, hc1d]
    refine hZ _ (pp ?_)
    refine Wk_ret (pp ?_)
    cases h
    simp only [go_sem, seval, hc1d]
    exact ⟨_, rfl, RokI.h, PureI.h⟩
  have hc1d := decide_eq_true hc1
  first | rw [if_pos hc1] at h | rw [if_pos hc1d] at h
  refine Wk_skip (pp ?_)
  refine Wk_seq (Wk_seq (Wk_regionZ fun Z hZ => ?_))
  simp only [go_sem, seval, hc1d]
  refine hZ _ (pp ?_)
  refine Wk_block (Wk_real fun hreal3 => ?_)
  have hl2 := hreal3.lenT 0 (by decide) (by simp only [go_sem, seval, Bool.or_self, List.length_set, Int.natCast_zero, Int.cast_ofNat_Int, hc1d]; rfl)
  rw [List.length_map] at hl2
  refine Wk_range (fun (v3 : Nat) (b : Unit) => ⟨tab 26 (updT (updT (updT deadT 0 (.sl false none 1 none (a0.map rowS))) 1 (.sl false none 1 none (a1.map rowS))) 5 (.val (.int .i64 ((v3 : Nat) : Int)))), RZ⟩) () h ?_ ?_
  · refine weak_roots ?_ ?_ <;> repeat' first | exact xn | exact rn | refine xc ?_ ?_ | refine rc ?_ ?_ ?_ | rfl | simp only [go_sem, seval, Bool.or_self, List.length_set, Int.natCast_zero, Int.cast_ofNat_Int, hc1d]
  rintro v3 ⟨⟩ hi4 h -
  rcases (drop_cases a0 v3 hi4).symm with ⟨hi4', _, hd7⟩ | ⟨x6, hi4', hx5, hd7⟩
  · rw [hd7] at h
    simp only [ref1_SameStrings_L1] at h
    refine Wk_seq (Wk_seq (Wk_regionZ fun Z hZ => ?_))
    simp only [go_sem, seval, hc1d, hi4']
    refine hZ _ (pp ?_)
    try simp only [Int.ofNat_lt, hi4', if_true, if_false] at h
    refine Wk_cond_f rfl (Wk_exit (pp ?_))
    refine Wk_seq (Wk_regionZ fun Z hZ => ?_)
    simp only [go_sem, seval, hc1d, hi4']
    refine hZ _ (pp ?_)
    refine Wk_ret (pp ?_)
    cases h
    simp only [go_sem, seval, hc1d, hi4']
    exact ⟨_, rfl, RokI.h, PureI.h⟩
  rw [hd7] at h
  simp only [ref1_SameStrings_L1] at h
  have hw6 := wrap_succ hi4' hl2
  refine Wk_seq (Wk_seq (Wk_regionZ fun Z hZ => ?_))
  simp only [go_sem, seval, hc1d, hx5, hi4', hw6]
  refine hZ _ (pp ?_)
  try simp only [Int.ofNat_lt, hi4', if_true, if_false] at h
  refine Wk_cond_t rfl (Wk_skip (pp ?_))
  refine Wk_seq (Wk_block (Wk_seq ?_))
  try rw [gx_nat hx5] at h
  obtain ⟨x1, hb8, hx9, h⟩ := gx_some h
  try simp only [Int.toNat_natCast, Int.reduceToNat, Int.toNat_zero] at hx9
  try simp only [Int.ofNat_lt, Int.natCast_nonneg, true_and] at hb8
  refine Wk_regionD fun Z hZ => ?_
  simp only [go_sem, seval, hc1d, hx5, hi4', hw6, hb8, hx9]
  repeat with_reducible refine and_bar (by kernel_rfl) ?_
  refine hZ _ (by kernel_rfl) (pp ?_)
  refine Wk_cond_nbool rfl (fun hc10 => ?_) (fun hc10 => ?_)
  · rw [if_neg (ne_true_of_eq_false hc10)] at h
    refine Wk_seq (Wk_regionZ fun Z hZ => ?_)
    simp only [go_sem, seval, hc1d, hx5, hi4', hw6, hb8, hx9, hc10]
    refine hZ _ (pp ?_)
    refine Wk_ret (pp ?_)
    cases h
    simp only [go_sem, seval, hc1d, hx5, hi4', hw6, hb8, hx9, hc10]
    exact ⟨_, rfl, RokI.h, PureI.h⟩
  rw [if_pos hc10] at h
  refine Wk_skip (pp ?_)
  refine Wk_regionZ fun Z hZ => ?_
  simp only [go_sem, seval, hc1d, hx5, hi4', hw6, hb8, hx9, hc10]
  refine hZ _ (pp ?_)
  first | refine ⟨(), ?_, h⟩ | refine ⟨hi4', (), ?_, h⟩
  refine weak_roots ?_ ?_ <;> repeat' first | exact xn | exact rn | refine xc ?_ ?_ | refine rc ?_ ?_ ?_ | rfl | simp only [go_sem, seval, Bool.or_self, List.length_set, Int.natCast_zero, Int.cast_ofNat_Int, hc1d, hx5, hi4', hw6, hb8, hx9, hc10]
def fs_ref1_SameStrings (N : Nat) : FnS := { own := [], pure := true, fn := fun cs => match cs with
  | [c0, c1] => ((decL 1 (dec1 decS)) c0).bind fun qc0 => ((decL 1 (dec1 decS)) c1).bind fun qc1 => (ref1_SameStrings N qc0 qc1).map fun r => .val (.bool r)
  | _ => none }
attribute [go_sem] fs_ref1_SameStrings
theorem fs_ref1_SameStrings_ok (N : Nat) : FSOk Try.prog 92 (fs_ref1_SameStrings N) := by
  refine ⟨fun cs r h => ?_, fun h => by cases h⟩
  simp only [fs_ref1_SameStrings] at h
  split at h
  · simp only [Option.bind_eq_some_iff, Option.map_eq_some_iff] at h
    obtain ⟨q0, h0, q1, h1, r', hr, rfl⟩ := h
    exact ((w_ref1_SameStrings N q0 q1 r' hr).args (LeL.cons (decL_le decS1_le h0) (LeL.cons (decL_le decS1_le h1) (LeL.nil))))
  · cases h


noncomputable def G_ref1_SameValue (N d f : Nat) : Option FnS := glist [(29, 48, fs_ref1_SameInts N), (36, 92, fs_ref1_SameStrings N)] d f
attribute [go_sem] G_ref1_SameValue
set_option maxHeartbeats 40000000 in
theorem w_ref1_SameValue (N : Nat) (a0 : Value) (a1 : Value) (r : Bool) (h : ref1_SameValue N a0 a1 = some r) : Con Try.prog 71 [] true [.agg (Value.row a0), .agg (Value.row a1)] (.val (.bool r)) := by
  refine fun_ok4 (G := (G_ref1_SameValue N)) Try.func71 rfl (by decide) (by kernel_rfl) (gc 29 (fs_ref1_SameInts_ok N) (gc 36 (fs_ref1_SameStrings_ok N) gn)) [] mix (Nat.le_of_ble_eq_true rfl) ?_
  simp only [Try.f71]
  unfold ref1_SameValue at h
  refine Wk_seq (Wk_regionZ fun Z hZ => ?_)
  simp only [go_sem, seval]
  refine hZ _ (pp ?_)
  refine Wk_seq (Wk_regionZ fun Z hZ => ?_)
  simp only [go_sem, seval]
  refine sw (RX_guard_dec rfl) (fun hc1 => ?_) (fun hc1 => ?_)
  · have hc1d := decide_eq_false hc1
    first | rw [if_neg hc1] at h | rw [if_neg (ne_true_of_eq_false hc1d)] at h
    simp only [go_sem, seval, hc1d]
    refine hZ _ (pp ?_)
    refine Wk_ret (pp ?_)
    cases h
    simp only [go_sem, seval, hc1d]
    exact ⟨_, rfl, RokI.h, PureI.h⟩
  have hc1d := decide_eq_true hc1
  first | rw [if_pos hc1] at h | rw [if_pos hc1d] at h
  simp only [go_sem, seval, hc1d]
  refine sw (RX_guard_dec rfl) (fun hc2 => ?_) (fun hc2 => ?_)
  · have hc2d := decide_eq_false hc2
    first | rw [if_neg hc2] at h | rw [if_neg (ne_true_of_eq_false hc2d)] at h
    simp only [go_sem, seval, hc1d, hc2d]
    refine hZ _ (pp ?_)
    refine Wk_ret (pp ?_)
    cases h
    simp only [go_sem, seval, hc1d, hc2d]
    exact ⟨_, rfl, RokI.h, PureI.h⟩
  have hc2d := decide_eq_true hc2
  first | rw [if_pos hc2] at h | rw [if_pos hc2d] at h
  simp only [go_sem, seval, hc1d, hc2d]
  refine sw (RX_guard_bool rfl) (fun hc3 => ?_) (fun hc3 => ?_)
  · rw [if_neg (ne_true_of_eq_false hc3)] at h
    simp only [go_sem, seval, hc1d, hc2d, hc3]
    refine hZ _ (pp ?_)
    refine Wk_ret (pp ?_)
    cases h
    simp only [go_sem, seval, hc1d, hc2d, hc3]
    exact ⟨_, rfl, RokI.h, PureI.h⟩
  rw [if_pos hc3] at h
  obtain ⟨r1, hr4, h⟩ := Option.bind_eq_some_iff.1 h
  simp only [go_sem, seval, hc1d, hc2d, hc3, hr4]
  refine RX_guard_bool rfl (fun hc5 => ?_) (fun hc5 => ?_)
  · rw [if_pos hc5] at h
    obtain ⟨r2, hr6, h⟩ := Option.bind_eq_some_iff.1 h
    simp only [go_sem, seval, hc1d, hc2d, hc3, hr4, hc5, hr6]
    refine hZ _ (pp ?_)
    refine Wk_ret (pp ?_)
    cases h
    simp only [go_sem, seval, hc1d, hc2d, hc3, hr4, hc5, hr6]
    exact ⟨_, rfl, RokI.h, PureI.h⟩
  rw [if_neg (ne_true_of_eq_false hc5)] at h
  simp only [go_sem, seval, hc1d, hc2d, hc3, hr4, hc5]
  refine hZ _ (pp ?_)
  refine Wk_ret (pp ?_)
  cases h
  simp only [go_sem, seval, hc1d, hc2d, hc3, hr4, hc5]
  exact ⟨_, rfl, RokI.h, PureI.h⟩
def fs_ref1_SameValue (N : Nat) : FnS := { own := [], pure := true, fn := fun cs => match cs with
  | [c0, c1] => (Value.decA c0).bind fun qc0 => (Value.decA c1).bind fun qc1 => (ref1_SameValue N qc0 qc1).map fun r => .val (.bool r)
  | _ => none }
attribute [go_sem] fs_ref1_SameValue
theorem fs_ref1_SameValue_ok (N : Nat) : FSOk Try.prog 71 (fs_ref1_SameValue N) := by
  refine ⟨fun cs r h => ?_, fun h => by cases h⟩
  simp only [fs_ref1_SameValue] at h
  split at h
  · simp only [Option.bind_eq_some_iff, Option.map_eq_some_iff] at h
    obtain ⟨q0, h0, q1, h1, r', hr, rfl⟩ := h
    exact ((w_ref1_SameValue N q0 q1 r' hr).args (LeL.cons (Value.decA_le h0) (LeL.cons (Value.decA_le h1) (LeL.nil))))
  · cases h


noncomputable def G_ref24_SameRequest (N d f : Nat) : Option FnS := glist [(13, 22, fs_ref24_SameID N), (43, 70, fs_ref24_SameRefs N), (70, 71, fs_ref1_SameValue N)] d f
attribute [go_sem] G_ref24_SameRequest
set_option maxHeartbeats 40000000 in
theorem w_ref24_SameRequest (N : Nat) (a0 : Request) (a1 : Request) (r : Bool) (h : ref24_SameRequest N a0 a1 = some r) : Con Try.prog 25 [] true [.agg (Request.row a0), .agg (Request.row a1)] (.val (.bool r)) := by
  refine fun_ok4 (G := (G_ref24_SameRequest N)) Try.func25 rfl (by decide) (by kernel_rfl) (gc 13 (fs_ref24_SameID_ok N) (gc 43 (fs_ref24_SameRefs_ok N) (gc 70 (fs_ref1_SameValue_ok N) gn))) [] mix (Nat.le_of_ble_eq_true rfl) ?_
  simp only [Try.f25]
  unfold ref24_SameRequest at h
  refine Wk_seq (Wk_regionZ fun Z hZ => ?_)
  simp only [go_sem, seval]
  refine hZ _ (pp ?_)
  refine Wk_seq ?_
  apply Wk_join1 (fun (c7 : Bool) => ⟨tab 72 (updT (updT (updT deadT 2 (.pref 2 [] 0 0)) 3 (.pref 3 [] 0 0)) 52 (.val (.bool c7))), (upd (upd RZ 2 (.sl true none 9 (some 1) [Request.row a0])) 3 (.sl true none 9 (some 1) [Request.row a1]))⟩)
  · intro hJ1
    obtain ⟨r8, hr2, h⟩ := Option.bind_eq_some_iff.1 h
    refine Wk_regionZ fun Z hZ => ?_
    simp only [go_sem, seval, hr2]
    refine RX_guard_nbool rfl (fun hc3 => ?_) (fun hc3 => ?_)
    · rw [if_neg (ne_true_of_eq_false hc3)] at h
      simp only [go_sem, seval, hr2, hc3]
      refine hZ _ (pp ?_)
      refine hJ1 _ true ?_ h
      refine weak_roots ?_ ?_ <;> repeat' first | exact xn | exact rn | refine xc ?_ ?_ | refine rc ?_ ?_ ?_ | rfl | simp only [go_sem, seval, Bool.or_self, List.length_set, Int.natCast_zero, Int.cast_ofNat_Int, hr2, hc3]
    rw [if_pos hc3] at h
    simp only [go_sem, seval, hr2, hc3]
    refine RX_guard_nbool rfl (fun hc4 => ?_) (fun hc4 => ?_)
    · rw [if_neg (ne_true_of_eq_false hc4)] at h
      simp only [go_sem, seval, hr2, hc3, hc4]
      refine hZ _ (pp ?_)
      refine hJ1 _ true ?_ h
      refine weak_roots ?_ ?_ <;> repeat' first | exact xn | exact rn | refine xc ?_ ?_ | refine rc ?_ ?_ ?_ | rfl | simp only [go_sem, seval, Bool.or_self, List.length_set, Int.natCast_zero, Int.cast_ofNat_Int, hr2, hc3, hc4]
    rw [if_pos hc4] at h
    simp only [go_sem, seval, hr2, hc3, hc4]
    refine RX_guard_nbool rfl (fun hc5 => ?_) (fun hc5 => ?_)
    · rw [if_neg (ne_true_of_eq_false hc5)] at h
      simp only [go_sem, seval, hr2, hc3, hc4, hc5]
      refine hZ _ (pp ?_)
      refine hJ1 _ true ?_ h
      refine weak_roots ?_ ?_ <;> repeat' first | exact xn | exact rn | refine xc ?_ ?_ | refine rc ?_ ?_ ?_ | rfl | simp only [go_sem, seval, Bool.or_self, List.length_set, Int.natCast_zero, Int.cast_ofNat_Int, hr2, hc3, hc4, hc5]
    rw [if_pos hc5] at h
    simp only [go_sem, seval, hr2, hc3, hc4, hc5]
    refine RX_guard_ndec rfl (fun hc6 => ?_) (fun hc6 => ?_)
    · have hc6d := decide_eq_false hc6
      first | rw [if_neg hc6] at h | rw [if_neg (ne_true_of_eq_false hc6d)] at h
      simp only [go_sem, seval, hr2, hc3, hc4, hc5, hc6d]
      refine hZ _ (pp ?_)
      refine hJ1 _ true ?_ h
      refine weak_roots ?_ ?_ <;> repeat' first | exact xn | exact rn | refine xc ?_ ?_ | refine rc ?_ ?_ ?_ | rfl | simp only [go_sem, seval, Bool.or_self, List.length_set, Int.natCast_zero, Int.cast_ofNat_Int, hr2, hc3, hc4, hc5, hc6d]
    have hc6d := decide_eq_true hc6
    first | rw [if_pos hc6] at h | rw [if_pos hc6d] at h
    obtain ⟨r9, hr7, h⟩ := Option.bind_eq_some_iff.1 h
    simp only [go_sem, seval, hr2, hc3, hc4, hc5, hc6d, hr7]
    refine RX_guard_nbool rfl (fun hc8 => ?_) (fun hc8 => ?_)
    · rw [if_neg (ne_true_of_eq_false hc8)] at h
      simp only [go_sem, seval, hr2, hc3, hc4, hc5, hc6d, hr7, hc8]
      refine hZ _ (pp ?_)
      refine hJ1 _ true ?_ h
      refine weak_roots ?_ ?_ <;> repeat' first | exact xn | exact rn | refine xc ?_ ?_ | refine rc ?_ ?_ ?_ | rfl | simp only [go_sem, seval, Bool.or_self, List.length_set, Int.natCast_zero, Int.cast_ofNat_Int, hr2, hc3, hc4, hc5, hc6d, hr7, hc8]
    rw [if_pos hc8] at h
    simp only [go_sem, seval, hr2, hc3, hc4, hc5, hc6d, hr7, hc8]
    refine hZ _ (pp ?_)
    refine hJ1 _ (!decide (a0.Txn = a1.Txn)) ?_ h
    refine weak_roots ?_ ?_ <;> repeat' first | exact xn | exact rn | refine xc ?_ ?_ | refine rc ?_ ?_ ?_ | rfl | simp only [go_sem, seval, Bool.or_self, List.length_set, Int.natCast_zero, Int.cast_ofNat_Int, hr2, hc3, hc4, hc5, hc6d, hr7, hc8]
  intro c7 h
  unfold ref24_SameRequest_J1 at h
  refine Wk_cond_bool rfl (fun hc9 => ?_) (fun hc9 => ?_)
  · rw [if_pos hc9] at h
    refine Wk_seq (Wk_regionZ fun Z hZ => ?_)
    simp only [go_sem, seval, hc9]
    refine hZ _ (pp ?_)
    refine Wk_ret (pp ?_)
    cases h
    simp only [go_sem, seval, hc9]
    exact ⟨_, rfl, RokI.h, PureI.h⟩
  rw [if_neg (ne_true_of_eq_false hc9)] at h
  refine Wk_skip (pp ?_)
  unfold ref24_SameRequest_J2 at h
  refine Wk_seq (Wk_seq (Wk_regionZ fun Z hZ => ?_))
  simp only [go_sem, seval, hc9]
  refine hZ _ (pp ?_)
  refine Wk_block (Wk_real fun hreal11 => ?_)
  have hl10 := hreal11.cell 2 6 (by simp only [go_sem, seval, Bool.or_self, List.length_set, Int.natCast_zero, Int.cast_ofNat_Int, hc9]; rfl) rfl
  rw [List.length_map] at hl10
  refine Wk_range (fun (v7 : Nat) (b : Unit) => ⟨tab 72 (updT (updT (updT deadT 2 (.pref 2 [] 0 0)) 3 (.pref 3 [] 0 0)) 5 (.val (.int .i64 ((v7 : Nat) : Int)))), (upd (upd RZ 2 (.sl true none 9 (some 1) [Request.row a0])) 3 (.sl true none 9 (some 1) [Request.row a1]))⟩) () h ?_ ?_
  · refine weak_roots ?_ ?_ <;> repeat' first | exact xn | exact rn | refine xc ?_ ?_ | refine rc ?_ ?_ ?_ | rfl | simp only [go_sem, seval, Bool.or_self, List.length_set, Int.natCast_zero, Int.cast_ofNat_Int, hc9]
  rintro v7 ⟨⟩ hi12 h -
  rcases (drop_cases a0.Args v7 hi12).symm with ⟨hi12', _, hd15⟩ | ⟨x10, hi12', hx13, hd15⟩
  · rw [hd15] at h
    simp only [ref24_SameRequest_L1] at h
    refine Wk_seq (Wk_seq (Wk_regionZ fun Z hZ => ?_))
    simp only [go_sem, seval, hc9, hi12']
    refine hZ _ (pp ?_)
    try simp only [Int.ofNat_lt, hi12', if_true, if_false] at h
    refine Wk_cond_f rfl (Wk_exit (pp ?_))
    refine Wk_seq (Wk_regionZ fun Z hZ => ?_)
    simp only [go_sem, seval, hc9, hi12']
    refine hZ _ (pp ?_)
    refine Wk_ret (pp ?_)
    cases h
    simp only [go_sem, seval, hc9, hi12']
    exact ⟨_, rfl, RokI.h, PureI.h⟩
  rw [hd15] at h
  simp only [ref24_SameRequest_L1] at h
  have hw14 := wrap_succ hi12' hl10
  refine Wk_seq (Wk_seq (Wk_regionZ fun Z hZ => ?_))
  simp only [go_sem, seval, hc9, hx13, hi12', hw14]
  refine hZ _ (pp ?_)
  try simp only [Int.ofNat_lt, hi12', if_true, if_false] at h
  refine Wk_cond_t rfl (Wk_skip (pp ?_))
  refine Wk_seq (Wk_block (Wk_seq ?_))
  try rw [gx_nat hx13] at h
  obtain ⟨x10, hb16, hx17, h⟩ := gx_some h
  try simp only [Int.toNat_natCast, Int.reduceToNat, Int.toNat_zero] at hx17
  try simp only [Int.ofNat_lt, Int.natCast_nonneg, true_and] at hb16
  obtain ⟨r11, hr18, h⟩ := Option.bind_eq_some_iff.1 h
  refine Wk_regionD fun Z hZ => ?_
  simp only [go_sem, seval, hc9, hx13, hi12', hw14, hb16, hx17, hr18]
  repeat with_reducible refine and_bar (by kernel_rfl) ?_
  refine hZ _ (by kernel_rfl) (pp ?_)
  refine Wk_cond_nbool rfl (fun hc19 => ?_) (fun hc19 => ?_)
  · rw [if_neg (ne_true_of_eq_false hc19)] at h
    refine Wk_seq (Wk_regionZ fun Z hZ => ?_)
    simp only [go_sem, seval, hc9, hx13, hi12', hw14, hb16, hx17, hr18, hc19]
    refine hZ _ (pp ?_)
    refine Wk_ret (pp ?_)
    cases h
    simp only [go_sem, seval, hc9, hx13, hi12', hw14, hb16, hx17, hr18, hc19]
    exact ⟨_, rfl, RokI.h, PureI.h⟩
  rw [if_pos hc19] at h
  refine Wk_skip (pp ?_)
  refine Wk_regionZ fun Z hZ => ?_
  simp only [go_sem, seval, hc9, hx13, hi12', hw14, hb16, hx17, hr18, hc19]
  refine hZ _ (pp ?_)
  first | refine ⟨(), ?_, h⟩ | refine ⟨hi12', (), ?_, h⟩
  refine weak_roots ?_ ?_ <;> repeat' first | exact xn | exact rn | refine xc ?_ ?_ | refine rc ?_ ?_ ?_ | rfl | simp only [go_sem, seval, Bool.or_self, List.length_set, Int.natCast_zero, Int.cast_ofNat_Int, hc9, hx13, hi12', hw14, hb16, hx17, hr18, hc19]
def fs_ref24_SameRequest (N : Nat) : FnS := { own := [], pure := true, fn := fun cs => match cs with
  | [c0, c1] => (Request.decA c0).bind fun qc0 => (Request.decA c1).bind fun qc1 => (ref24_SameRequest N qc0 qc1).map fun r => .val (.bool r)
  | _ => none }
attribute [go_sem] fs_ref24_SameRequest
theorem fs_ref24_SameRequest_ok (N : Nat) : FSOk Try.prog 25 (fs_ref24_SameRequest N) := by
  refine ⟨fun cs r h => ?_, fun h => by cases h⟩
  simp only [fs_ref24_SameRequest] at h
  split at h
  · simp only [Option.bind_eq_some_iff, Option.map_eq_some_iff] at h
    obtain ⟨q0, h0, q1, h1, r', hr, rfl⟩ := h
    exact ((w_ref24_SameRequest N q0 q1 r' hr).args (LeL.cons (Request.decA_le h0) (LeL.cons (Request.decA_le h1) (LeL.nil))))
  · cases h


noncomputable def G_ref24_running (N d f : Nat) : Option FnS := glist [(6, 25, fs_ref24_SameRequest N)] d f
attribute [go_sem] G_ref24_running
set_option maxHeartbeats 40000000 in
theorem w_ref24_running (N : Nat) (a0 : Turn) (r : Bool) (h : ref24_running N a0 = some r) : Con Try.prog 53 [] true [.agg (Turn.row a0)] (.val (.bool r)) := by
  refine fun_ok4 (G := (G_ref24_running N)) Try.func53 rfl (by decide) (by kernel_rfl) (gc 6 (fs_ref24_SameRequest_ok N) gn) [] mix (Nat.le_of_ble_eq_true rfl) ?_
  simp only [Try.f53]
  unfold ref24_running at h
  refine Wk_seq (Wk_regionZ fun Z hZ => ?_)
  simp only [go_sem, seval]
  refine hZ _ (pp ?_)
  refine Wk_seq ?_
  obtain ⟨r1, hr1, h⟩ := Option.bind_eq_some_iff.1 h
  refine Wk_regionZ fun Z hZ => ?_
  simp only [go_sem, seval, hr1]
  refine hZ _ (pp ?_)
  refine Wk_ret (pp ?_)
  cases h
  simp only [go_sem, seval, hr1]
  exact ⟨_, rfl, RokI.h, PureI.h⟩
def fs_ref24_running (N : Nat) : FnS := { own := [], pure := true, fn := fun cs => match cs with
  | [c0] => (Turn.decA c0).bind fun qc0 => (ref24_running N qc0).map fun r => .val (.bool r)
  | _ => none }
attribute [go_sem] fs_ref24_running
theorem fs_ref24_running_ok (N : Nat) : FSOk Try.prog 53 (fs_ref24_running N) := by
  refine ⟨fun cs r h => ?_, fun h => by cases h⟩
  simp only [fs_ref24_running] at h
  split at h
  · simp only [Option.bind_eq_some_iff, Option.map_eq_some_iff] at h
    obtain ⟨q0, h0, r', hr, rfl⟩ := h
    exact ((w_ref24_running N q0 r' hr).args (LeL.cons (Turn.decA_le h0) (LeL.nil)))
  · cases h


noncomputable def G_ref24_SameReply (N d f : Nat) : Option FnS := glist [(22, 48, fs_ref1_SameInts N), (36, 71, fs_ref1_SameValue N)] d f
attribute [go_sem] G_ref24_SameReply
set_option maxHeartbeats 40000000 in
theorem w_ref24_SameReply (N : Nat) (a0 : Reply) (a1 : Reply) (r : Bool) (h : ref24_SameReply N a0 a1 = some r) : Con Try.prog 45 [] true [.agg (Reply.row a0), .agg (Reply.row a1)] (.val (.bool r)) := by
  refine fun_ok4 (G := (G_ref24_SameReply N)) Try.func45 rfl (by decide) (by kernel_rfl) (gc 22 (fs_ref1_SameInts_ok N) (gc 36 (fs_ref1_SameValue_ok N) gn)) [] mix (Nat.le_of_ble_eq_true rfl) ?_
  simp only [Try.f45]
  unfold ref24_SameReply at h
  refine Wk_seq (Wk_regionZ fun Z hZ => ?_)
  simp only [go_sem, seval]
  refine hZ _ (pp ?_)
  refine Wk_seq (Wk_regionZ fun Z hZ => ?_)
  simp only [go_sem, seval]
  refine sw (RX_guard_bool rfl) (fun hc1 => ?_) (fun hc1 => ?_)
  · rw [if_neg (ne_true_of_eq_false hc1)] at h
    simp only [go_sem, seval, hc1]
    refine hZ _ (pp ?_)
    refine Wk_ret (pp ?_)
    cases h
    simp only [go_sem, seval, hc1]
    exact ⟨_, rfl, RokI.h, PureI.h⟩
  rw [if_pos hc1] at h
  simp only [go_sem, seval, hc1]
  refine sw (RX_guard_dec rfl) (fun hc2 => ?_) (fun hc2 => ?_)
  · have hc2d := decide_eq_false hc2
    first | rw [if_neg hc2] at h | rw [if_neg (ne_true_of_eq_false hc2d)] at h
    simp only [go_sem, seval, hc1, hc2d]
    refine hZ _ (pp ?_)
    refine Wk_ret (pp ?_)
    cases h
    simp only [go_sem, seval, hc1, hc2d]
    exact ⟨_, rfl, RokI.h, PureI.h⟩
  have hc2d := decide_eq_true hc2
  first | rw [if_pos hc2] at h | rw [if_pos hc2d] at h
  obtain ⟨r1, hr3, h⟩ := Option.bind_eq_some_iff.1 h
  simp only [go_sem, seval, hc1, hc2d, hr3]
  refine sw (RX_guard_bool rfl) (fun hc4 => ?_) (fun hc4 => ?_)
  · rw [if_neg (ne_true_of_eq_false hc4)] at h
    simp only [go_sem, seval, hc1, hc2d, hr3, hc4]
    refine hZ _ (pp ?_)
    refine Wk_ret (pp ?_)
    cases h
    simp only [go_sem, seval, hc1, hc2d, hr3, hc4]
    exact ⟨_, rfl, RokI.h, PureI.h⟩
  rw [if_pos hc4] at h
  simp only [go_sem, seval, hc1, hc2d, hr3, hc4]
  refine RX_guard_dec rfl (fun hc5 => ?_) (fun hc5 => ?_)
  · have hc5d := decide_eq_true hc5
    first | rw [if_pos hc5] at h | rw [if_pos hc5d] at h
    obtain ⟨r2, hr6, h⟩ := Option.bind_eq_some_iff.1 h
    simp only [go_sem, seval, hc1, hc2d, hr3, hc4, hc5d, hr6]
    refine hZ _ (pp ?_)
    refine Wk_ret (pp ?_)
    cases h
    simp only [go_sem, seval, hc1, hc2d, hr3, hc4, hc5d, hr6]
    exact ⟨_, rfl, RokI.h, PureI.h⟩
  have hc5d := decide_eq_false hc5
  first | rw [if_neg hc5] at h | rw [if_neg (ne_true_of_eq_false hc5d)] at h
  simp only [go_sem, seval, hc1, hc2d, hr3, hc4, hc5d]
  refine hZ _ (pp ?_)
  refine Wk_ret (pp ?_)
  cases h
  simp only [go_sem, seval, hc1, hc2d, hr3, hc4, hc5d]
  exact ⟨_, rfl, RokI.h, PureI.h⟩
def fs_ref24_SameReply (N : Nat) : FnS := { own := [], pure := true, fn := fun cs => match cs with
  | [c0, c1] => (Reply.decA c0).bind fun qc0 => (Reply.decA c1).bind fun qc1 => (ref24_SameReply N qc0 qc1).map fun r => .val (.bool r)
  | _ => none }
attribute [go_sem] fs_ref24_SameReply
theorem fs_ref24_SameReply_ok (N : Nat) : FSOk Try.prog 45 (fs_ref24_SameReply N) := by
  refine ⟨fun cs r h => ?_, fun h => by cases h⟩
  simp only [fs_ref24_SameReply] at h
  split at h
  · simp only [Option.bind_eq_some_iff, Option.map_eq_some_iff] at h
    obtain ⟨q0, h0, q1, h1, r', hr, rfl⟩ := h
    exact ((w_ref24_SameReply N q0 q1 r' hr).args (LeL.cons (Reply.decA_le h0) (LeL.cons (Reply.decA_le h1) (LeL.nil))))
  · cases h


noncomputable def G_ref24_ValidReply (N d f : Nat) : Option FnS := glist [(5, 64, fs_ref24_ValidName N), (19, 65, fs_ref24_validPath N), (34, 68, fs_ref1_ValidValue N)] d f
attribute [go_sem] G_ref24_ValidReply
set_option maxHeartbeats 40000000 in
theorem w_ref24_ValidReply (N : Nat) (a0 : Reply) (r : Bool) (h : ref24_ValidReply N a0 = some r) : Con Try.prog 20 [] true [.agg (Reply.row a0)] (.val (.bool r)) := by
  refine fun_ok4 (G := (G_ref24_ValidReply N)) Try.func20 rfl (by decide) (by kernel_rfl) (gc 5 (fs_ref24_ValidName_ok N) (gc 19 (fs_ref24_validPath_ok N) (gc 34 (fs_ref1_ValidValue_ok N) gn))) [] mix (Nat.le_of_ble_eq_true rfl) ?_
  simp only [Try.f20]
  unfold ref24_ValidReply at h
  refine Wk_seq (Wk_regionZ fun Z hZ => ?_)
  simp only [go_sem, seval]
  refine hZ _ (pp ?_)
  refine Wk_seq ?_
  obtain ⟨r1, hr1, h⟩ := Option.bind_eq_some_iff.1 h
  refine Wk_regionZ fun Z hZ => ?_
  simp only [go_sem, seval, hr1]
  refine sw (RX_guard_bool rfl) (fun hc2 => ?_) (fun hc2 => ?_)
  · rw [if_neg (ne_true_of_eq_false hc2)] at h
    simp only [go_sem, seval, hr1, hc2]
    refine hZ _ (pp ?_)
    refine Wk_ret (pp ?_)
    cases h
    simp only [go_sem, seval, hr1, hc2]
    exact ⟨_, rfl, RokI.h, PureI.h⟩
  rw [if_pos hc2] at h
  simp only [go_sem, seval, hr1, hc2]
  refine sw (RX_guard_dec rfl) (fun hc3 => ?_) (fun hc3 => ?_)
  · have hc3d := decide_eq_false hc3
    first | rw [if_neg hc3] at h | rw [if_neg (ne_true_of_eq_false hc3d)] at h
    simp only [go_sem, seval, hr1, hc2, hc3d]
    refine hZ _ (pp ?_)
    refine Wk_ret (pp ?_)
    cases h
    simp only [go_sem, seval, hr1, hc2, hc3d]
    exact ⟨_, rfl, RokI.h, PureI.h⟩
  have hc3d := decide_eq_true hc3
  first | rw [if_pos hc3] at h | rw [if_pos hc3d] at h
  simp only [go_sem, seval, hr1, hc2, hc3d]
  refine sw (RX_guard_dec rfl) (fun hc4 => ?_) (fun hc4 => ?_)
  · have hc4d := decide_eq_false hc4
    first | rw [if_neg hc4] at h | rw [if_neg (ne_true_of_eq_false hc4d)] at h
    simp only [go_sem, seval, hr1, hc2, hc3d, hc4d]
    refine hZ _ (pp ?_)
    refine Wk_ret (pp ?_)
    cases h
    simp only [go_sem, seval, hr1, hc2, hc3d, hc4d]
    exact ⟨_, rfl, RokI.h, PureI.h⟩
  have hc4d := decide_eq_true hc4
  first | rw [if_pos hc4] at h | rw [if_pos hc4d] at h
  obtain ⟨r2, hr5, h⟩ := Option.bind_eq_some_iff.1 h
  simp only [go_sem, seval, hr1, hc2, hc3d, hc4d, hr5]
  refine sw (RX_guard_bool rfl) (fun hc6 => ?_) (fun hc6 => ?_)
  · rw [if_neg (ne_true_of_eq_false hc6)] at h
    simp only [go_sem, seval, hr1, hc2, hc3d, hc4d, hr5, hc6]
    refine hZ _ (pp ?_)
    refine Wk_ret (pp ?_)
    cases h
    simp only [go_sem, seval, hr1, hc2, hc3d, hc4d, hr5, hc6]
    exact ⟨_, rfl, RokI.h, PureI.h⟩
  rw [if_pos hc6] at h
  simp only [go_sem, seval, hr1, hc2, hc3d, hc4d, hr5, hc6]
  refine sw (RX_guard_dec rfl) (fun hc7 => ?_) (fun hc7 => ?_)
  · have hc7d := decide_eq_false hc7
    first | rw [if_neg hc7] at h | rw [if_neg (ne_true_of_eq_false hc7d)] at h
    simp only [go_sem, seval, hr1, hc2, hc3d, hc4d, hr5, hc6, hc7d]
    refine hZ _ (pp ?_)
    refine Wk_ret (pp ?_)
    cases h
    simp only [go_sem, seval, hr1, hc2, hc3d, hc4d, hr5, hc6, hc7d]
    exact ⟨_, rfl, RokI.h, PureI.h⟩
  have hc7d := decide_eq_true hc7
  first | rw [if_pos hc7] at h | rw [if_pos hc7d] at h
  simp only [go_sem, seval, hr1, hc2, hc3d, hc4d, hr5, hc6, hc7d]
  refine sw (RX_guard_dec rfl) (fun hc8 => ?_) (fun hc8 => ?_)
  · have hc8d := decide_eq_false hc8
    first | rw [if_neg hc8] at h | rw [if_neg (ne_true_of_eq_false hc8d)] at h
    simp only [go_sem, seval, hr1, hc2, hc3d, hc4d, hr5, hc6, hc7d, hc8d]
    refine hZ _ (pp ?_)
    refine Wk_ret (pp ?_)
    cases h
    simp only [go_sem, seval, hr1, hc2, hc3d, hc4d, hr5, hc6, hc7d, hc8d]
    exact ⟨_, rfl, RokI.h, PureI.h⟩
  have hc8d := decide_eq_true hc8
  first | rw [if_pos hc8] at h | rw [if_pos hc8d] at h
  obtain ⟨r3, hr9, h⟩ := Option.bind_eq_some_iff.1 h
  simp only [go_sem, seval, hr1, hc2, hc3d, hc4d, hr5, hc6, hc7d, hc8d, hr9]
  refine sw (RX_guard_bool rfl) (fun hc10 => ?_) (fun hc10 => ?_)
  · rw [if_neg (ne_true_of_eq_false hc10)] at h
    simp only [go_sem, seval, hr1, hc2, hc3d, hc4d, hr5, hc6, hc7d, hc8d, hr9, hc10]
    refine hZ _ (pp ?_)
    refine Wk_ret (pp ?_)
    cases h
    simp only [go_sem, seval, hr1, hc2, hc3d, hc4d, hr5, hc6, hc7d, hc8d, hr9, hc10]
    exact ⟨_, rfl, RokI.h, PureI.h⟩
  rw [if_pos hc10] at h
  simp only [go_sem, seval, hr1, hc2, hc3d, hc4d, hr5, hc6, hc7d, hc8d, hr9, hc10]
  refine RX_guard_dec rfl (fun hc11 => ?_) (fun hc11 => ?_)
  · have hc11d := decide_eq_true hc11
    first | rw [if_pos hc11] at h | rw [if_pos hc11d] at h
    simp only [go_sem, seval, hr1, hc2, hc3d, hc4d, hr5, hc6, hc7d, hc8d, hr9, hc10, hc11d]
    refine hZ _ (pp ?_)
    refine Wk_ret (pp ?_)
    cases h
    simp only [go_sem, seval, hr1, hc2, hc3d, hc4d, hr5, hc6, hc7d, hc8d, hr9, hc10, hc11d]
    exact ⟨_, rfl, RokI.h, PureI.h⟩
  have hc11d := decide_eq_false hc11
  first | rw [if_neg hc11] at h | rw [if_neg (ne_true_of_eq_false hc11d)] at h
  simp only [go_sem, seval, hr1, hc2, hc3d, hc4d, hr5, hc6, hc7d, hc8d, hr9, hc10, hc11d]
  refine hZ _ (pp ?_)
  refine Wk_ret (pp ?_)
  cases h
  simp only [go_sem, seval, hr1, hc2, hc3d, hc4d, hr5, hc6, hc7d, hc8d, hr9, hc10, hc11d]
  exact ⟨_, rfl, RokI.h, PureI.h⟩
def fs_ref24_ValidReply (N : Nat) : FnS := { own := [], pure := true, fn := fun cs => match cs with
  | [c0] => (Reply.decA c0).bind fun qc0 => (ref24_ValidReply N qc0).map fun r => .val (.bool r)
  | _ => none }
attribute [go_sem] fs_ref24_ValidReply
theorem fs_ref24_ValidReply_ok (N : Nat) : FSOk Try.prog 20 (fs_ref24_ValidReply N) := by
  refine ⟨fun cs r h => ?_, fun h => by cases h⟩
  simp only [fs_ref24_ValidReply] at h
  split at h
  · simp only [Option.bind_eq_some_iff, Option.map_eq_some_iff] at h
    obtain ⟨q0, h0, r', hr, rfl⟩ := h
    exact ((w_ref24_ValidReply N q0 r' hr).args (LeL.cons (Reply.decA_le h0) (LeL.nil)))
  · cases h

end Go.Proofs.Ytmgpaicldmgckaa
