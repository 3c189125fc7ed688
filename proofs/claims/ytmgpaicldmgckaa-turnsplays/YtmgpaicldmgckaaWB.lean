/- Walks: each function computes its model. No condition. -/
import Derived.Test.YtmgpaicldmgckaaB
import Derived.Test.YtmgpaicldmgckaaWA
/- Each Go function computes its model: proofs laid by a program of ours. -/
set_option maxHeartbeats 40000000
set_option synthInstance.maxHeartbeats 2000000
set_option synthInstance.maxSize 4000
set_option linter.unusedSimpArgs false
set_option linter.unusedVariables false
set_option maxRecDepth 100000
namespace Go.Proofs.Ytmgpaicldmgckaa
open Go Go.Proofs Go.Abs
noncomputable def G_law24_TurnsPlays (N d f : Nat) : Option FnS := glist [(19, 9, fs_law24_awake N), (22, 46, fs_ref14_ValidRef N), (30, 27, fs_turns_New N), (39, 13, fs_turns_Waiting N), (102, 29, fs_turns_Begin N), (152, 29, fs_turns_Begin N), (183, 35, fs_turns_Suspend N), (196, 37, fs_turns_StartCall N), (217, 39, fs_turns_Answer N), (224, 41, fs_turns_Resume N), (51, 31, fs_turns_End N), (283, 15, fs_turns_Valid N), (68, 25, fs_ref24_SameRequest N)] d f
attribute [go_sem] G_law24_TurnsPlays
theorem w_law24_TurnsPlays (N : Nat) (a0 : Ref) (a1 : (List actorgridlaw24_Act)) (r : Bool) (h : law24_TurnsPlays N a0 a1 = some r) : Con Try.prog 6 [] true [.agg [.val (.string a0.Type_), .val (.string a0.Key)], .sl false none 3 none (a1.map actorgridlaw24_Act.row)] (.val (.bool r)) := by
  refine fun_ok4 (G := (G_law24_TurnsPlays N)) Try.func6 rfl (by decide) (by kernel_rfl) (gc 19 (fs_law24_awake_ok N) (gc 22 (fs_ref14_ValidRef_ok N) (gc 30 (fs_turns_New_ok N) (gc 39 (fs_turns_Waiting_ok N) (gc 102 (fs_turns_Begin_ok N) (gc 152 (fs_turns_Begin_ok N) (gc 183 (fs_turns_Suspend_ok N) (gc 196 (fs_turns_StartCall_ok N) (gc 217 (fs_turns_Answer_ok N) (gc 224 (fs_turns_Resume_ok N) (gc 51 (fs_turns_End_ok N) (gc 283 (fs_turns_Valid_ok N) (gc 68 (fs_ref24_SameRequest_ok N) gn))))))))))))) [(182, false)] mix (Nat.le_of_ble_eq_true rfl) ?_
  simp only [Try.f6]
  unfold law24_TurnsPlays at h
  refine Wk_seq (Wk_regionZ fun Z hZ => ?_)
  simp only [go_sem, seval]
  refine hZ _ (pp (Wk_seq (Wk_seq ?_)))
  obtain ⟨r1, hr1, h⟩ := Option.bind_eq_some_iff.1 h
  refine Wk_regionZ fun Z hZ => ?_
  simp only [go_sem, seval, hr1]
  refine hZ _ (pp (Wk_cond_nbool rfl (fun hc2 => ?_) (fun hc2 => ?_)))
  · rw [if_neg (ne_true_of_eq_false hc2)] at h
    refine Wk_seq (Wk_regionZ fun Z hZ => ?_)
    simp only [go_sem, seval, hc2]
    refine hZ _ (pp (Wk_ret (pp ?_)))
    cases h
    simp only [go_sem, seval]
    exact ⟨_, rfl, RokI.h, PureI.h⟩
  rw [if_pos hc2] at h
  refine Wk_skip (pp (Wk_seq ?_))
  apply Wk_join1 (fun (c6 : Bool) => ⟨tab 324 (updT (updT (updT deadT 1 (.sl false none 3 none (a1.map actorgridlaw24_Act.row))) 2 (.pref 2 [] 0 0)) 28 (.val (.bool c6))), (upd RZ 2 (.sl true none 2 (some 1) [[.val (.string a0.Type_), .val (.string a0.Key)]]))⟩)
  · intro hJ3
    obtain ⟨r7, hr4, h⟩ := Option.bind_eq_some_iff.1 h
    refine Wk_regionZ fun Z hZ => ?_
    simp only [go_sem, seval, hc2, hr4]
    refine RX_guard_nbool rfl (fun hc5 => ?_) (fun hc5 => ?_)
    · rw [if_neg (ne_true_of_eq_false hc5)] at h
      simp only [go_sem, seval, hc5]
      refine hZ _ (pp (hJ3 _ true ?_ h))
      refine weak_roots ?_ ?_ <;> repeat' first | exact xn | exact rn | refine xc ?_ ?_ | refine rc ?_ ?_ ?_ | rfl | simp only [go_sem, seval, Bool.or_self, List.length_set, Int.natCast_zero, Int.cast_ofNat_Int, hr1, hc2, hr4, hc5]
    rw [if_pos hc5] at h
    simp only [go_sem, seval, hc5]
    refine hZ _ (pp (hJ3 _ (decide (80 < ((a1.length : Nat) : Int))) ?_ h))
    refine weak_roots ?_ ?_ <;> repeat' first | exact xn | exact rn | refine xc ?_ ?_ | refine rc ?_ ?_ ?_ | rfl | simp only [go_sem, seval, Bool.or_self, List.length_set, Int.natCast_zero, Int.cast_ofNat_Int, hr1, hc2, hr4, hc5]
  intro c6 h
  unfold law24_TurnsPlays_J1 at h
  refine Wk_cond_bool rfl (fun hc6 => ?_) (fun hc6 => ?_)
  · rw [if_pos hc6] at h
    refine Wk_seq (Wk_regionZ fun Z hZ => ?_)
    simp only [go_sem, seval, hc6]
    refine hZ _ (pp (Wk_ret (pp ?_)))
    cases h
    simp only [go_sem, seval]
    exact ⟨_, rfl, RokI.h, PureI.h⟩
  rw [if_neg (ne_true_of_eq_false hc6)] at h
  refine Wk_skip (pp ?_)
  unfold law24_TurnsPlays_J12 at h
  refine Wk_seq ?_
  obtain ⟨r8, hr7, h⟩ := Option.bind_eq_some_iff.1 h
  refine Wk_regionZ fun Z hZ => ?_
  simp only [go_sem, seval, hc6, hr7]
  refine hZ _ (pp (Wk_seq (Wk_regionZ fun Z hZ => ?_)))
  simp only [go_sem, seval]
  refine hZ _ (pp (Wk_seq (Wk_regionZ fun Z hZ => ?_)))
  simp only [go_sem, seval]
  refine hZ _ (pp (Wk_seq (Wk_seq (Wk_regionZ fun Z hZ => ?_))))
  simp only [go_sem, seval]
  refine hZ _ (pp (Wk_block (Wk_real fun hreal9 => ?_)))
  have hl8 := hreal9.lenT 1 (by decide) (by simp only [go_sem, seval]; rfl)
  rw [List.length_map] at hl8
  refine Wk_range (fun (v15 : Nat) (b : ByteArray × ByteArray × Int × List Turn × List Request × Int) => ⟨tab 324 (updT (updT (updT (updT (updT (updT deadT 1 (.sl false none 3 none (a1.map actorgridlaw24_Act.row))) 2 (.pref 2 [] 0 0)) 5 (.pref 5 [] 0 0)) 6 (.pal 117 [] 0 b.2.2.2.2.1.length none)) 7 (.val (.int .i64 b.2.2.2.2.2))) 8 (.val (.int .i64 ((v15 : Nat) : Int)))), (upd (upd (upd RZ 2 (.sl true none 2 (some 1) [[.val (.string a0.Type_), .val (.string a0.Key)]])) 5 (.sl true none 4 (some 1) [[.val (.string b.1), .val (.string b.2.1), .val (.int .i64 b.2.2.1), .sl false none 30 none (b.2.2.2.1.map Turn.row)]])) 117 (.sl true none 9 none (b.2.2.2.2.1.map Request.row)))⟩) (r8.Self.Type_, r8.Self.Key, r8.Index, r8.Stack, [], 0) h ?_ ?_
  · refine Weak.trans (weak_adopt 6 117 9 (by simp only [go_sem, seval]) (by simp only [go_sem, seval])) ?_
    refine weak_roots ?_ ?_ <;> repeat' first | exact xn | exact rn | refine xc ?_ ?_ | refine rc ?_ ?_ ?_ | rfl | simp only [go_sem, seval, Bool.or_self, List.length_set, Int.natCast_zero, Int.cast_ofNat_Int, hr1, hc2, hc6, hr7]
  rintro v15 ⟨s9, s10, v11, l12, l13, v14⟩ hi10 h -
  rcases (drop_cases a1 v15 hi10).symm with ⟨hi10', _, hd13⟩ | ⟨x18, hi10', hx11, hd13⟩
  · rw [hd13] at h
    simp only [law24_TurnsPlays_L1] at h
    refine Wk_seq (Wk_seq (Wk_regionZ fun Z hZ => ?_))
    simp only [go_sem, seval, hi10']
    refine hZ _ (pp ?_)
    try simp only [Int.ofNat_lt, hi10', if_true, if_false] at h
    refine Wk_cond_f rfl (Wk_exit (pp (Wk_seq (Wk_regionZ fun Z hZ => ?_))))
    simp only [go_sem, seval]
    refine hZ _ (pp (Wk_ret (pp ?_)))
    cases h
    simp only [go_sem, seval]
    exact ⟨_, rfl, RokI.h, PureI.h⟩
  rw [hd13] at h
  simp only [law24_TurnsPlays_L1] at h
  have hw12 := wrap_succ hi10' hl8
  refine Wk_seq (Wk_seq (Wk_regionZ fun Z hZ => ?_))
  simp only [go_sem, seval, hi10']
  refine hZ _ (pp ?_)
  try simp only [Int.ofNat_lt, hi10', if_true, if_false] at h
  refine Wk_cond_t rfl (Wk_skip (pp (Wk_seq (Wk_block (Wk_seq ?_)))))
  obtain ⟨r9, hr14, h⟩ := Option.bind_eq_some_iff.1 h
  refine Wk_regionZ fun Z hZ => ?_
  simp only [go_sem, seval, hr14]
  refine hZ _ (pp (Wk_seq (Wk_regionZ fun Z hZ => ?_)))
  simp only [go_sem, seval]
  refine hZ _ (pp ?_)
  apply Wk_join6 (fun (s34 : ByteArray) (s35 : ByteArray) (v36 : Int) (l37 : List Turn) (l38 : List Request) (v39 : Int) => ⟨tab 324 (updT (updT (updT (updT (updT (updT (updT (updT deadT 1 (.sl false none 3 none (a1.map actorgridlaw24_Act.row))) 2 (.pref 2 [] 0 0)) 5 (.pref 5 [] 0 0)) 6 (.pal 117 [] 0 l38.length none)) 7 (.val (.int .i64 v14))) 8 (.val (.int .i64 ((v15 : Nat) : Int)))) 11 (.pref 11 [] 0 0)) 12 (.val (.int .i64 v39))), (upd (upd (upd (upd RZ 2 (.sl true none 2 (some 1) [[.val (.string a0.Type_), .val (.string a0.Key)]])) 5 (.sl true none 4 (some 1) [[.val (.string s9), .val (.string s10), .val (.int .i64 v11), .sl false none 30 none (l12.map Turn.row)]])) 11 (.sl true none 4 (some 1) [[.val (.string s34), .val (.string s35), .val (.int .i64 v36), .sl false none 30 none (l37.map Turn.row)]])) 117 (.sl true none 9 none (l38.map Request.row)))⟩)
  · intro hJ15
    refine Wk_seq ?_
    try rw [gx_nat hx11] at h
    refine Wk_regionZ fun Z hZ => ?_
    simp only [go_sem, seval, hx11, hi10']
    refine hZ _ (pp (Wk_block (Wk_seq (Wk_regionZ fun Z hZ => ?_))))
    simp only [go_sem, seval]
    refine hZ _ (pp (Wk_cond_dec rfl (fun hc16 => ?_) (fun hc16 => ?_)))
    · have hc16d := decide_eq_true hc16
      rw [if_pos hc16] at h
      refine Wk_seq ?_
      try rw [gx_nat hx11] at h
      try rw [gx_nat hx11] at h
      refine Wk_regionD fun Z hZ => ?_
      simp only [go_sem, seval, hx11, hi10', hc16d]
      repeat with_reducible refine and_bar (by kernel_rfl) ?_
      refine hZ _ (by kernel_rfl) (pp (Wk_seq ?_))
      obtain ⟨r40, hr17, h⟩ := Option.bind_eq_some_iff.1 h
      refine Wk_regionZ fun Z hZ => ?_
      simp only [go_sem, seval, hr17]
      refine hZ _ (pp (Wk_seq ?_))
      apply Wk_join1 (fun (c43 : Bool) => ⟨tab 324 (updT (updT (updT (updT (updT (updT (updT (updT (updT (updT deadT 1 (.sl false none 3 none (a1.map actorgridlaw24_Act.row))) 2 (.pref 2 [] 0 0)) 5 (.pref 5 [] 0 0)) 6 (.pal 117 [] 0 l13.length none)) 7 (.val (.int .i64 v14))) 8 (.val (.int .i64 ((v15 : Nat) : Int)))) 11 (.pref 11 [] 0 0)) 12 (.val (.int .i64 r40.2))) 13 (.pref 13 [] 0 0)) 111 (.val (.bool c43))), (upd (upd (upd (upd (upd RZ 2 (.sl true none 2 (some 1) [[.val (.string a0.Type_), .val (.string a0.Key)]])) 5 (.sl true none 4 (some 1) [[.val (.string s9), .val (.string s10), .val (.int .i64 v11), .sl false none 30 none (l12.map Turn.row)]])) 11 (.sl true none 4 (some 1) [Actor.row r40.1])) 13 (.sl true none 9 (some 1) [[.val (.string (bstr [IntKind.u8.wrap (97 + (Int.tmod x18.Who 3))])), .val (.int .i64 (IntKind.i64.wrap (1 + (IntKind.i64.wrap (Int.tmod x18.What 4))))), .val (.slice none 0 0), .val (.string a0.Type_), .val (.string a0.Key), .val (.string (⟨#[109]⟩)), .val (.slice none 0 0), .val (.slice none 0 0), .val (.int .i64 0)]])) 117 (.sl true none 9 none (l13.map Request.row)))⟩)
      · intro hJ18
        refine Wk_regionZ fun Z hZ => ?_
        simp only [go_sem, seval]
        refine RX_guard_dec rfl (fun hc19 => ?_) (fun hc19 => ?_)
        · have hc19d := decide_eq_true hc19
          rw [if_pos hc19] at h
          simp only [go_sem, seval, hc19d]
          refine hZ _ (pp (hJ18 _ (decide (0 < ((l13.length : Nat) : Int))) ?_ h))
          refine weak_roots ?_ ?_ <;> repeat' first | exact xn | exact rn | refine xc ?_ ?_ | refine rc ?_ ?_ ?_ | rfl | simp only [go_sem, seval, Bool.or_self, List.length_set, Int.natCast_zero, Int.cast_ofNat_Int, hr1, hc2, hc6, hr7, hx11, hi10', hw12, hr14, hc16d, hr17, hc19d]
        have hc19d := decide_eq_false hc19
        rw [if_neg hc19] at h
        simp only [go_sem, seval, hc19d]
        refine hZ _ (pp (hJ18 _ false ?_ h))
        refine weak_roots ?_ ?_ <;> repeat' first | exact xn | exact rn | refine xc ?_ ?_ | refine rc ?_ ?_ ?_ | rfl | simp only [go_sem, seval, Bool.or_self, List.length_set, Int.natCast_zero, Int.cast_ofNat_Int, hr1, hc2, hc6, hr7, hx11, hi10', hw12, hr14, hc16d, hr17, hc19d]
      intro c43 h
      unfold law24_TurnsPlays_J2 at h
      refine Wk_cond_bool rfl (fun hc20 => ?_) (fun hc20 => ?_)
      · rw [if_pos hc20] at h
        refine Wk_seq (Wk_regionZ fun Z hZ => ?_)
        simp only [go_sem, seval, hc20]
        refine hZ _ (pp (Wk_ret (pp ?_)))
        cases h
        simp only [go_sem, seval]
        exact ⟨_, rfl, RokI.h, PureI.h⟩
      rw [if_neg (ne_true_of_eq_false hc20)] at h
      refine Wk_skip (pp ?_)
      unfold law24_TurnsPlays_J3 at h
      refine Wk_seq (Wk_regionZ fun Z hZ => ?_)
      simp only [go_sem, seval, hc20]
      refine hZ _ (pp (sw (Wk_cond_dec rfl) (fun hc21 => ?_) (fun hc21 => ?_)))
      · have hc21d := decide_eq_false hc21
        rw [if_neg hc21] at h
        refine Wk_skip (pp (hJ15 _ r40.1.Self.Type_ r40.1.Self.Key r40.1.Index r40.1.Stack l13 r40.2 ?_ h))
        refine weak_roots ?_ ?_ <;> repeat' first | exact xn | exact rn | refine xc ?_ ?_ | refine rc ?_ ?_ ?_ | rfl | simp only [go_sem, seval, Bool.or_self, List.length_set, Int.natCast_zero, Int.cast_ofNat_Int, hr1, hc2, hc6, hr7, hx11, hi10', hw12, hr14, hc16d, hr17, hc20, hc21d]
      have hc21d := decide_eq_true hc21
      rw [if_pos hc21] at h
      obtain ⟨ha22, h⟩ := apx_some h
      simp only [List.length_cons, List.length_nil, Nat.zero_add, Nat.reduceAdd] at ha22
      refine Wk_regionZ fun Z hZ => ?_
      simp only [go_sem, seval, hc21d, ha22]
      refine hZ _ (pp (hJ15 _ r40.1.Self.Type_ r40.1.Self.Key r40.1.Index r40.1.Stack (l13 ++ [(Request.mk (bstr [IntKind.u8.wrap (97 + (Int.tmod x18.Who 3))]) (IntKind.i64.wrap (1 + (IntKind.i64.wrap (Int.tmod x18.What 4)))) [] a0 (⟨#[109]⟩) [] [] 0)]) r40.2 ?_ h))
      refine Weak.trans (weak_tells (n := 116) ([[.val (.string (bstr [IntKind.u8.wrap (97 + (Int.tmod x18.Who 3))])), .val (.int .i64 (IntKind.i64.wrap (1 + (IntKind.i64.wrap (Int.tmod x18.What 4))))), .sl false none 1 none [], .val (.string a0.Type_), .val (.string a0.Key), .val (.string (⟨#[109]⟩)), .sl false none 5 none [], .sl false none 2 none [], .val (.int .i64 0)]]) (by (try simp only [go_sem]); rfl) (by simp only [go_sem, seval]; rfl) (by simp only [poiT_updT, poiT_deadT, go_sem]; rfl)) (Weak.trans (weak_tells (n := 117) (l13.map Request.row ++ [[.val (.string (bstr [IntKind.u8.wrap (97 + (Int.tmod x18.Who 3))])), .val (.int .i64 (IntKind.i64.wrap (1 + (IntKind.i64.wrap (Int.tmod x18.What 4))))), .sl false none 1 none [], .val (.string a0.Type_), .val (.string a0.Key), .val (.string (⟨#[109]⟩)), .sl false none 5 none [], .sl false none 2 none [], .val (.int .i64 0)]]) (by (try simp only [go_sem]); rfl) (by simp only [go_sem, seval]; rfl) (by simp only [poiT_updT, poiT_deadT, go_sem]; rfl)) ?_)
      refine weak_roots ?_ ?_ <;> repeat' first | exact xn | exact rn | refine xc ?_ ?_ | refine rc ?_ ?_ ?_ | rfl | simp only [go_sem, seval]
    have hc16d := decide_eq_false hc16
    rw [if_neg hc16] at h
    refine Wk_seq (Wk_regionZ fun Z hZ => ?_)
    simp only [go_sem, seval, hc16d]
    refine hZ _ (pp (Wk_cond_dec rfl (fun hc23 => ?_) (fun hc23 => ?_)))
    · have hc23d := decide_eq_true hc23
      rw [if_pos hc23] at h
      refine Wk_seq (Wk_seq (Wk_regionZ fun Z hZ => ?_))
      simp only [go_sem, seval, hc23d]
      refine hZ _ (pp (Wk_cond_nbool rfl (fun hc24 => ?_) (fun hc24 => ?_)))
      · rw [if_neg (ne_true_of_eq_false hc24)] at h
        refine Wk_exit (pp (Wk_regionZ fun Z hZ => ?_))
        simp only [go_sem, seval, hw12, hc24]
        refine hZ _ (pp ?_)
        first | refine ⟨(s9, s10, v11, l12, l13, v14), ?_, h⟩ | refine ⟨hi10', (s9, s10, v11, l12, l13, v14), ?_, h⟩
        refine weak_roots ?_ ?_ <;> repeat' first | exact xn | exact rn | refine xc ?_ ?_ | refine rc ?_ ?_ ?_ | rfl | simp only [go_sem, seval, Bool.or_self, List.length_set, Int.natCast_zero, Int.cast_ofNat_Int, hr1, hc2, hc6, hr7, hx11, hi10', hw12, hr14, hc16d, hc23d, hc24]
      rw [if_pos hc24] at h
      refine Wk_skip (pp (Wk_seq ?_))
      first | obtain ⟨ha25, h⟩ := apn_some h | (obtain ⟨ha25, h⟩ := apx_some h; rw [List.nil_append] at h)
      simp only [Nat.reduceAdd] at ha25
      try rw [gx_nat hx11] at h
      obtain ⟨ha26, h⟩ := apx_some h
      simp only [List.length_cons, List.length_nil, Nat.zero_add, Nat.reduceAdd] at ha26
      first | obtain ⟨ha27, h⟩ := apn_some h | (obtain ⟨ha27, h⟩ := apx_some h; rw [List.nil_append] at h)
      simp only [Nat.reduceAdd] at ha27
      obtain ⟨ha28, h⟩ := apx_some h
      simp only [List.length_cons, List.length_nil, Nat.zero_add, Nat.reduceAdd] at ha28
      refine Wk_regionH fun Y hY => ?_
      refine RX2_s rfl rfl fun Z hZ => ?_
      simp only [go_sem, seval, hc24]
      repeat with_reducible refine and_bar (by kernel_rfl) ?_
      refine hZ _ ?_
      refine RX2_s rfl rfl fun Z hZ => ?_
      simp only [go_sem, seval]
      refine hZ _ ?_
      refine RX2_s rfl rfl fun Z hZ => ?_
      simp only [go_sem, seval]
      refine hZ _ ?_
      refine RX2_s rfl rfl fun Z hZ => ?_
      simp only [go_sem, seval]
      refine hZ _ ?_
      refine RX2_s rfl rfl fun Z hZ => ?_
      simp only [go_sem, seval]
      refine hZ _ ?_
      refine RX2_s rfl rfl fun Z hZ => ?_
      simp only [go_sem, seval]
      refine hZ _ ?_
      refine RX2_s rfl rfl fun Z hZ => ?_
      simp only [go_sem, seval]
      refine hZ _ ?_
      refine RX2_a fun Z hZ => ?_
      simp only [go_sem, seval, ha25]
      refine hZ _ ?_
      refine RX2_s rfl rfl fun Z hZ => ?_
      simp only [go_sem, seval]
      refine hZ _ ?_
      refine RX2_s rfl rfl fun Z hZ => ?_
      simp only [go_sem, seval]
      refine hZ _ ?_
      refine RX2_s rfl rfl fun Z hZ => ?_
      simp only [go_sem, seval, hi10']
      refine hZ _ ?_
      refine RX2_s rfl rfl fun Z hZ => ?_
      simp only [go_sem, seval]
      refine hZ _ ?_
      refine RX2_s rfl rfl fun Z hZ => ?_
      simp only [go_sem, seval, hx11]
      refine hZ _ ?_
      refine RX2_s rfl rfl fun Z hZ => ?_
      simp only [go_sem, seval]
      refine hZ _ ?_
      refine RX2_s rfl rfl fun Z hZ => ?_
      simp only [go_sem, seval]
      refine hZ _ ?_
      refine RX2_s rfl rfl fun Z hZ => ?_
      simp only [go_sem, seval]
      refine hZ _ ?_
      refine RX2_a fun Z hZ => ?_
      simp only [go_sem, seval, ha26]
      refine hZ _ ?_
      refine RX2_s rfl rfl fun Z hZ => ?_
      simp only [go_sem, seval]
      refine hZ _ ?_
      refine RX2_s rfl rfl fun Z hZ => ?_
      simp only [go_sem, seval]
      refine hZ _ ?_
      refine RX2_s rfl rfl fun Z hZ => ?_
      simp only [go_sem, seval]
      refine hZ _ ?_
      refine RX2_s rfl rfl fun Z hZ => ?_
      simp only [go_sem, seval]
      refine hZ _ ?_
      refine RX2_a fun Z hZ => ?_
      simp only [go_sem, seval, ha27]
      refine hZ _ ?_
      refine RX2_s rfl rfl fun Z hZ => ?_
      simp only [go_sem, seval]
      refine hZ _ ?_
      refine RX2_s rfl rfl fun Z hZ => ?_
      simp only [go_sem, seval]
      refine hZ _ ?_
      refine RX2_s rfl rfl fun Z hZ => ?_
      simp only [go_sem, seval]
      refine hZ _ ?_
      refine RX2_a fun Z hZ => ?_
      simp only [go_sem, seval, ha28]
      refine hZ _ ?_
      refine RX2_s rfl rfl fun Z hZ => ?_
      simp only [go_sem, seval]
      refine hZ _ ?_
      refine RX2_s rfl rfl fun Z hZ => ?_
      simp only [go_sem, seval]
      refine hZ _ ?_
      refine RX2_w fun Z hZ => ?_
      simp only [go_sem, seval]
      refine hZ _ ?_
      refine RX2_end (by kernel_rfl) (hY _ (pp (Wk_seq (Wk_weak (weak_frz (n := 14) (by simp only [go_sem, seval]; rfl) (by simp only [poiT_updT, poiT_deadT, go_sem]; rfl)) ?_))))
      obtain ⟨r44, hr29, h⟩ := Option.bind_eq_some_iff.1 h
      refine Wk_regionZ fun Z hZ => ?_
      simp only [go_sem, seval, hr29]
      refine hZ _ (pp (Wk_seq (Wk_regionZ fun Z hZ => ?_)))
      simp only [go_sem, seval]
      refine hZ _ (pp (sw (Wk_cond_dec rfl) (fun hc30 => ?_) (fun hc30 => ?_)))
      · have hc30d := decide_eq_false hc30
        rw [if_neg hc30] at h
        refine Wk_skip (pp (hJ15 _ r44.1.Self.Type_ r44.1.Self.Key r44.1.Index r44.1.Stack l13 r44.2 ?_ h))
        refine weak_roots ?_ ?_ <;> repeat' first | exact xn | exact rn | refine xc ?_ ?_ | refine rc ?_ ?_ ?_ | rfl | simp only [go_sem, seval, Bool.or_self, List.length_set, Int.natCast_zero, Int.cast_ofNat_Int, hr1, hc2, hc6, hr7, hx11, hi10', hw12, hr14, hc16d, hc23d, hc24, ha25, ha26, ha27, ha28, hr29, hc30d]
      have hc30d := decide_eq_true hc30
      rw [if_pos hc30] at h
      obtain ⟨ha31, h⟩ := apx_some h
      simp only [List.length_cons, List.length_nil, Nat.zero_add, Nat.reduceAdd] at ha31
      refine Wk_regionZ fun Z hZ => ?_
      simp only [go_sem, seval, hc30d, ha31]
      refine hZ _ (pp (hJ15 _ r44.1.Self.Type_ r44.1.Self.Key r44.1.Index r44.1.Stack (l13 ++ [(Request.mk r9.1.Client r9.1.Seq (r9.1.Path ++ [IntKind.i64.wrap (Int.tmod x18.What 3)]) a0 (⟨#[110]⟩) [] (r9.1.Chain ++ [r9.1.Target]) 0)]) r44.2 ?_ h))
      refine Weak.trans (weak_tells (n := 159) ([[.val (.string r9.1.Client), .val (.int .i64 r9.1.Seq), .sl false none 1 none ((r9.1.Path ++ [IntKind.i64.wrap (Int.tmod x18.What 3)]).map (rowI .i64)), .val (.string a0.Type_), .val (.string a0.Key), .val (.string (⟨#[110]⟩)), .sl false none 5 none [], .sl false none 2 none ((r9.1.Chain ++ [r9.1.Target]).map Ref.row), .val (.int .i64 0)]]) (by (try simp only [go_sem]); rfl) (by simp only [go_sem, seval]; rfl) (by simp only [poiT_updT, poiT_deadT, go_sem]; rfl)) (Weak.trans (weak_tells (n := 160) (l13.map Request.row ++ [[.val (.string r9.1.Client), .val (.int .i64 r9.1.Seq), .sl false none 1 none ((r9.1.Path ++ [IntKind.i64.wrap (Int.tmod x18.What 3)]).map (rowI .i64)), .val (.string a0.Type_), .val (.string a0.Key), .val (.string (⟨#[110]⟩)), .sl false none 5 none [], .sl false none 2 none ((r9.1.Chain ++ [r9.1.Target]).map Ref.row), .val (.int .i64 0)]]) (by (try simp only [go_sem]); rfl) (by simp only [go_sem, seval]; rfl) (by simp only [poiT_updT, poiT_deadT, go_sem]; rfl)) (Weak.trans (weak_rename 6 160 117 (by decide) (by decide) (by simp only [go_sem, seval]) (by simp only [go_sem, seval]; rfl) (by simp only [go_sem, seval]; rfl) (by simp)) ?_))
      refine weak_roots ?_ ?_ <;> repeat' first | exact xn | exact rn | refine xc ?_ ?_ | refine rc ?_ ?_ ?_ | rfl | simp only [go_sem, seval]
    have hc23d := decide_eq_false hc23
    rw [if_neg hc23] at h
    refine Wk_seq (Wk_regionZ fun Z hZ => ?_)
    simp only [go_sem, seval, hc23d]
    refine hZ _ (pp (Wk_cond_dec rfl (fun hc32 => ?_) (fun hc32 => ?_)))
    · have hc32d := decide_eq_true hc32
      rw [if_pos hc32] at h
      try rw [gx_nat hx11] at h
      try rw [gx_nat hx11] at h
      obtain ⟨r45, hr33, h⟩ := Option.bind_eq_some_iff.1 h
      refine Wk_regionH fun Y hY => ?_
      refine RX2_s rfl rfl fun Z hZ => ?_
      simp only [go_sem, seval, hc32d]
      repeat with_reducible refine and_bar (by kernel_rfl) ?_
      refine hZ _ ?_
      refine RX2_s rfl rfl fun Z hZ => ?_
      simp only [go_sem, seval]
      refine hZ _ ?_
      refine RX2_s rfl rfl fun Z hZ => ?_
      simp only [go_sem, seval]
      refine hZ _ ?_
      refine RX2_s rfl rfl fun Z hZ => ?_
      simp only [go_sem, seval, hi10']
      refine hZ _ ?_
      refine RX2_s rfl rfl fun Z hZ => ?_
      simp only [go_sem, seval]
      refine hZ _ ?_
      refine RX2_s rfl rfl fun Z hZ => ?_
      simp only [go_sem, seval, hx11]
      refine hZ _ ?_
      refine RX2_s rfl rfl fun Z hZ => ?_
      simp only [go_sem, seval]
      refine hZ _ ?_
      refine RX2_s rfl rfl fun Z hZ => ?_
      simp only [go_sem, seval]
      refine hZ _ ?_
      refine RX2_s rfl rfl fun Z hZ => ?_
      simp only [go_sem, seval]
      refine hZ _ ?_
      refine RX2_s rfl rfl fun Z hZ => ?_
      simp only [go_sem, seval]
      refine hZ _ ?_
      refine RX2_s rfl rfl fun Z hZ => ?_
      simp only [go_sem, seval]
      refine hZ _ ?_
      refine RX2_s rfl rfl fun Z hZ => ?_
      simp only [go_sem, seval]
      refine hZ _ ?_
      refine RX2_s rfl rfl fun Z hZ => ?_
      simp only [go_sem, seval]
      refine hZ _ ?_
      refine RX2_s rfl rfl fun Z hZ => ?_
      simp only [go_sem, seval, hi10']
      refine hZ _ ?_
      refine RX2_s rfl rfl fun Z hZ => ?_
      simp only [go_sem, seval]
      refine hZ _ ?_
      refine RX2_s rfl rfl fun Z hZ => ?_
      simp only [go_sem, seval, hx11]
      refine hZ _ ?_
      refine RX2_s rfl rfl fun Z hZ => ?_
      simp only [go_sem, seval]
      refine hZ _ ?_
      refine RX2_s rfl rfl fun Z hZ => ?_
      simp only [go_sem, seval]
      refine hZ _ ?_
      refine RX2_s rfl rfl fun Z hZ => ?_
      simp only [go_sem, seval]
      refine hZ _ ?_
      refine RX2_s rfl rfl fun Z hZ => ?_
      simp only [go_sem, seval, hr33]
      refine hZ _ ?_
      refine RX2_s rfl rfl fun Z hZ => ?_
      simp only [go_sem, seval]
      refine hZ _ ?_
      refine RX2_s rfl rfl fun Z hZ => ?_
      simp only [go_sem, seval]
      refine hZ _ ?_
      refine RX2_s rfl rfl fun Z hZ => ?_
      simp only [go_sem, seval]
      refine hZ _ ?_
      refine RX2_w fun Z hZ => ?_
      simp only [go_sem, seval]
      refine hZ _ ?_
      refine RX2_s rfl rfl fun Z hZ => ?_
      simp only [go_sem, seval]
      refine hZ _ ?_
      refine RX2_end (by kernel_rfl) (hY _ (pp (hJ15 _ r45.1.Self.Type_ r45.1.Self.Key r45.1.Index r45.1.Stack l13 r45.2 ?_ h)))
      refine weak_roots ?_ ?_ <;> repeat' first | exact xn | exact rn | refine xc ?_ ?_ | refine rc ?_ ?_ ?_ | rfl | simp only [go_sem, seval, Bool.or_self, List.length_set, Int.natCast_zero, Int.cast_ofNat_Int, hr1, hc2, hc6, hr7, hx11, hi10', hw12, hr14, hc16d, hc23d, hc32d, hr33]
    have hc32d := decide_eq_false hc32
    rw [if_neg hc32] at h
    refine Wk_seq (Wk_regionZ fun Z hZ => ?_)
    simp only [go_sem, seval, hc32d]
    refine hZ _ (pp (Wk_cond_dec rfl (fun hc34 => ?_) (fun hc34 => ?_)))
    · have hc34d := decide_eq_true hc34
      rw [if_pos hc34] at h
      obtain ⟨r46, hr35, h⟩ := Option.bind_eq_some_iff.1 h
      refine Wk_regionZ fun Z hZ => ?_
      simp only [go_sem, seval, hc34d, hr35]
      refine hZ _ (pp (hJ15 _ r46.1.Self.Type_ r46.1.Self.Key r46.1.Index r46.1.Stack l13 r46.2 ?_ h))
      refine weak_roots ?_ ?_ <;> repeat' first | exact xn | exact rn | refine xc ?_ ?_ | refine rc ?_ ?_ ?_ | rfl | simp only [go_sem, seval, Bool.or_self, List.length_set, Int.natCast_zero, Int.cast_ofNat_Int, hr1, hc2, hc6, hr7, hx11, hi10', hw12, hr14, hc16d, hc23d, hc32d, hc34d, hr35]
    have hc34d := decide_eq_false hc34
    rw [if_neg hc34] at h
    refine Wk_seq (Wk_regionZ fun Z hZ => ?_)
    simp only [go_sem, seval, hc34d]
    refine hZ _ (pp (Wk_cond_dec rfl (fun hc36 => ?_) (fun hc36 => ?_)))
    · have hc36d := decide_eq_true hc36
      rw [if_pos hc36] at h
      try rw [gx_nat hx11] at h
      obtain ⟨r47, hr37, h⟩ := Option.bind_eq_some_iff.1 h
      refine Wk_regionH fun Y hY => ?_
      refine RX2_s rfl rfl fun Z hZ => ?_
      simp only [go_sem, seval, hc36d]
      repeat with_reducible refine and_bar (by kernel_rfl) ?_
      refine hZ _ ?_
      refine RX2_s rfl rfl fun Z hZ => ?_
      simp only [go_sem, seval]
      refine hZ _ ?_
      refine RX2_s rfl rfl fun Z hZ => ?_
      simp only [go_sem, seval]
      refine hZ _ ?_
      refine RX2_s rfl rfl fun Z hZ => ?_
      simp only [go_sem, seval]
      refine hZ _ ?_
      refine RX2_s rfl rfl fun Z hZ => ?_
      simp only [go_sem, seval]
      refine hZ _ ?_
      refine RX2_s rfl rfl fun Z hZ => ?_
      simp only [go_sem, seval]
      refine hZ _ ?_
      refine RX2_s rfl rfl fun Z hZ => ?_
      simp only [go_sem, seval]
      refine hZ _ ?_
      refine RX2_s rfl rfl fun Z hZ => ?_
      simp only [go_sem, seval]
      refine hZ _ ?_
      refine RX2_s rfl rfl fun Z hZ => ?_
      simp only [go_sem, seval]
      refine hZ _ ?_
      refine RX2_s rfl rfl fun Z hZ => ?_
      simp only [go_sem, seval, hi10']
      refine hZ _ ?_
      refine RX2_s rfl rfl fun Z hZ => ?_
      simp only [go_sem, seval]
      refine hZ _ ?_
      refine RX2_s rfl rfl fun Z hZ => ?_
      simp only [go_sem, seval, hx11]
      refine hZ _ ?_
      refine RX2_s rfl rfl fun Z hZ => ?_
      simp only [go_sem, seval]
      refine hZ _ ?_
      refine RX2_s rfl rfl fun Z hZ => ?_
      simp only [go_sem, seval]
      refine hZ _ ?_
      refine RX2_s rfl rfl fun Z hZ => ?_
      simp only [go_sem, seval]
      refine hZ _ ?_
      refine RX2_s rfl rfl fun Z hZ => ?_
      simp only [go_sem, seval, hr37]
      refine hZ _ ?_
      refine RX2_s rfl rfl fun Z hZ => ?_
      simp only [go_sem, seval]
      refine hZ _ ?_
      refine RX2_s rfl rfl fun Z hZ => ?_
      simp only [go_sem, seval]
      refine hZ _ ?_
      refine RX2_s rfl rfl fun Z hZ => ?_
      simp only [go_sem, seval]
      refine hZ _ ?_
      refine RX2_w fun Z hZ => ?_
      simp only [go_sem, seval]
      refine hZ _ ?_
      refine RX2_s rfl rfl fun Z hZ => ?_
      simp only [go_sem, seval]
      refine hZ _ ?_
      refine RX2_end (by kernel_rfl) (hY _ (pp (hJ15 _ r47.1.Self.Type_ r47.1.Self.Key r47.1.Index r47.1.Stack l13 r47.2 ?_ h)))
      refine weak_roots ?_ ?_ <;> repeat' first | exact xn | exact rn | refine xc ?_ ?_ | refine rc ?_ ?_ ?_ | rfl | simp only [go_sem, seval, Bool.or_self, List.length_set, Int.natCast_zero, Int.cast_ofNat_Int, hr1, hc2, hc6, hr7, hx11, hi10', hw12, hr14, hc16d, hc23d, hc32d, hc34d, hc36d, hr37]
    have hc36d := decide_eq_false hc36
    rw [if_neg hc36] at h
    refine Wk_seq (Wk_regionZ fun Z hZ => ?_)
    simp only [go_sem, seval, hc36d]
    refine hZ _ (pp (sw (Wk_cond_dec rfl) (fun hc38 => ?_) (fun hc38 => ?_)))
    · have hc38d := decide_eq_false hc38
      rw [if_neg hc38] at h
      refine Wk_seq (Wk_regionZ fun Z hZ => ?_)
      simp only [go_sem, seval, hc38d]
      refine hZ _ (pp (Wk_seq ?_))
      obtain ⟨r52, hr49, h⟩ := Option.bind_eq_some_iff.1 h
      refine Wk_regionZ fun Z hZ => ?_
      simp only [go_sem, seval, hr49]
      refine hZ _ (pp (Wk_seq (Wk_regionZ fun Z hZ => ?_)))
      simp only [go_sem, seval]
      refine hZ _ (pp (sw (Wk_cond_dec rfl) (fun hc50 => ?_) (fun hc50 => ?_)))
      · have hc50d := decide_eq_false hc50
        rw [if_neg hc50] at h
        refine Wk_skip (pp (hJ15 _ r52.1.Self.Type_ r52.1.Self.Key r52.1.Index r52.1.Stack l13 r52.2.2 ?_ h))
        refine weak_roots ?_ ?_ <;> repeat' first | exact xn | exact rn | refine xc ?_ ?_ | refine rc ?_ ?_ ?_ | rfl | simp only [go_sem, seval, Bool.or_self, List.length_set, Int.natCast_zero, Int.cast_ofNat_Int, hr1, hc2, hc6, hr7, hx11, hi10', hw12, hr14, hc16d, hc23d, hc32d, hc34d, hc36d, hc38d, hr49, hc50d]
      have hc50d := decide_eq_true hc50
      rw [if_pos hc50] at h
      refine Wk_seq ?_
      apply Wk_join1 (fun (c59 : Bool) => ⟨tab 324 (updT (updT (updT (updT (updT (updT (updT (updT (updT deadT 1 (.sl false none 3 none (a1.map actorgridlaw24_Act.row))) 2 (.pref 2 [] 0 0)) 5 (.pref 5 [] 0 0)) 6 (.pal 117 [] 0 l13.length none)) 7 (.val (.int .i64 v14))) 8 (.val (.int .i64 ((v15 : Nat) : Int)))) 11 (.pref 11 [] 0 0)) 12 (.val (.int .i64 r52.2.2))) 70 (.val (.bool c59))), (upd (upd (upd (upd RZ 2 (.sl true none 2 (some 1) [[.val (.string a0.Type_), .val (.string a0.Key)]])) 5 (.sl true none 4 (some 1) [[.val (.string s9), .val (.string s10), .val (.int .i64 v11), .sl false none 30 none (l12.map Turn.row)]])) 11 (.sl true none 4 (some 1) [Actor.row r52.1])) 117 (.sl true none 9 none (l13.map Request.row)))⟩)
      · intro hJ51
        refine Wk_regionD fun Z hZ => ?_
        simp only [go_sem, seval, hc50d]
        repeat with_reducible refine and_bar (by kernel_rfl) ?_
        refine RX_guard_dec rfl (fun hc52 => ?_) (fun hc52 => ?_)
        · have hc52d := decide_eq_true hc52
          rw [if_pos hc52] at h
          simp only [go_sem, seval, hc52d]
          refine hZ _ (by kernel_rfl) (pp (hJ51 _ true ?_ h))
          refine weak_roots ?_ ?_ <;> repeat' first | exact xn | exact rn | refine xc ?_ ?_ | refine rc ?_ ?_ ?_ | rfl | simp only [go_sem, seval, Bool.or_self, List.length_set, Int.natCast_zero, Int.cast_ofNat_Int, hr1, hc2, hc6, hr7, hx11, hi10', hw12, hr14, hc16d, hc23d, hc32d, hc34d, hc36d, hc38d, hr49, hc50d, hc52d]
        have hc52d := decide_eq_false hc52
        rw [if_neg hc52] at h
        obtain ⟨x60, hb53, hx54, h⟩ := gx_some h
        obtain ⟨r61, hr55, h⟩ := Option.bind_eq_some_iff.1 h
        simp only [go_sem, seval, hc52d, hb53, hx54, hr55]
        repeat with_reducible refine and_bar (by kernel_rfl) ?_
        refine hZ _ (by kernel_rfl) (pp (hJ51 _ (!r61) ?_ h))
        refine weak_roots ?_ ?_ <;> repeat' first | exact xn | exact rn | refine xc ?_ ?_ | refine rc ?_ ?_ ?_ | rfl | simp only [go_sem, seval, Bool.or_self, List.length_set, Int.natCast_zero, Int.cast_ofNat_Int, hr1, hc2, hc6, hr7, hx11, hi10', hw12, hr14, hc16d, hc23d, hc32d, hc34d, hc36d, hc38d, hr49, hc50d, hc52d, hb53, hx54, hr55]
      intro c59 h
      unfold law24_TurnsPlays_J5 at h
      refine Wk_cond_bool rfl (fun hc56 => ?_) (fun hc56 => ?_)
      · rw [if_pos hc56] at h
        refine Wk_seq (Wk_regionZ fun Z hZ => ?_)
        simp only [go_sem, seval, hc56]
        refine hZ _ (pp (Wk_ret (pp ?_)))
        cases h
        simp only [go_sem, seval]
        exact ⟨_, rfl, RokI.h, PureI.h⟩
      rw [if_neg (ne_true_of_eq_false hc56)] at h
      refine Wk_skip (pp ?_)
      unfold law24_TurnsPlays_J6 at h
      obtain ⟨hs57, h⟩ := slx_some h
      try simp only [Int.toNat_zero] at hs57 h
      first | obtain ⟨ha58, h⟩ := apn_some h | (obtain ⟨ha58, h⟩ := apx_some h; rw [List.nil_append] at h)
      simp only [Nat.reduceAdd] at ha58
      refine Wk_regionZ fun Z hZ => ?_
      simp only [go_sem, seval, hc56, hs57, Nat.sub_zero, Nat.zero_le, ha58]
      refine hZ _ (pp (hJ15 _ r52.1.Self.Type_ r52.1.Self.Key r52.1.Index r52.1.Stack (l13.take ((IntKind.i64.wrap (((l13.length : Nat) : Int) - 1)).toNat)) r52.2.2 ?_ h))
      refine Weak.trans (weak_dropT 117 (by simp only [poiT_updT, poiT_deadT, go_sem, seval]; rfl)) (Weak.trans (weak_rename 6 77 117 (by decide) (by decide) (by simp only [go_sem, seval]) (by simp only [go_sem, seval]; rfl) (by simp only [go_sem, seval]; rfl) (by simp)) ?_)
      refine weak_roots ?_ ?_ <;> repeat' first | exact xn | exact rn | refine xc ?_ ?_ | refine rc ?_ ?_ ?_ | rfl | simp only [go_sem, seval, Bool.or_self, List.length_set, Int.natCast_zero, Int.cast_ofNat_Int, hr1, hc2, hc6, hr7, hx11, hi10', hw12, hr14, hc16d, hc23d, hc32d, hc34d, hc36d, hc38d, hr49, hc50d, hc56, hs57, Nat.sub_zero, Nat.zero_le, ha58]
    have hc38d := decide_eq_true hc38
    rw [if_pos hc38] at h
    refine Wk_seq (Wk_regionZ fun Z hZ => ?_)
    simp only [go_sem, seval, hc38d]
    refine hZ _ (pp (Wk_seq ?_))
    obtain ⟨r48, hr39, h⟩ := Option.bind_eq_some_iff.1 h
    refine Wk_regionZ fun Z hZ => ?_
    simp only [go_sem, seval, hr39]
    refine hZ _ (pp ?_)
    apply Wk_join1 (fun (c50 : Bool) => ⟨tab 324 (updT (updT (updT (updT (updT (updT (updT (updT (updT deadT 1 (.sl false none 3 none (a1.map actorgridlaw24_Act.row))) 2 (.pref 2 [] 0 0)) 5 (.pref 5 [] 0 0)) 6 (.pal 117 [] 0 l13.length none)) 7 (.val (.int .i64 v14))) 8 (.val (.int .i64 ((v15 : Nat) : Int)))) 11 (.pref 11 [] 0 0)) 12 (.val (.int .i64 r48.2.2))) 276 (.val (.bool c50))), (upd (upd (upd (upd RZ 2 (.sl true none 2 (some 1) [[.val (.string a0.Type_), .val (.string a0.Key)]])) 5 (.sl true none 4 (some 1) [[.val (.string s9), .val (.string s10), .val (.int .i64 v11), .sl false none 30 none (l12.map Turn.row)]])) 11 (.sl true none 4 (some 1) [Actor.row r48.1])) 117 (.sl true none 9 none (l13.map Request.row)))⟩)
    · intro hJ40
      refine Wk_regionD fun Z hZ => ?_
      simp only [go_sem, seval]
      refine sw (RX_guard_dec rfl) (fun hc41 => ?_) (fun hc41 => ?_)
      · have hc41d := decide_eq_false hc41
        rw [if_neg hc41] at h
        simp only [go_sem, seval, hc41d]
        refine hZ _ (by kernel_rfl) (pp (hJ40 _ false ?_ h))
        refine weak_roots ?_ ?_ <;> repeat' first | exact xn | exact rn | refine xc ?_ ?_ | refine rc ?_ ?_ ?_ | rfl | simp only [go_sem, seval, Bool.or_self, List.length_set, Int.natCast_zero, Int.cast_ofNat_Int, hr1, hc2, hc6, hr7, hx11, hi10', hw12, hr14, hc16d, hc23d, hc32d, hc34d, hc36d, hc38d, hr39, hc41d]
      have hc41d := decide_eq_true hc41
      rw [if_pos hc41] at h
      simp only [go_sem, seval, hc41d]
      refine RX_guard_bool rfl (fun hc42 => ?_) (fun hc42 => ?_)
      · rw [if_pos hc42] at h
        simp only [go_sem, seval, hc42]
        refine hZ _ (by kernel_rfl) (pp (hJ40 _ true ?_ h))
        refine weak_roots ?_ ?_ <;> repeat' first | exact xn | exact rn | refine xc ?_ ?_ | refine rc ?_ ?_ ?_ | rfl | simp only [go_sem, seval, Bool.or_self, List.length_set, Int.natCast_zero, Int.cast_ofNat_Int, hr1, hc2, hc6, hr7, hx11, hi10', hw12, hr14, hc16d, hc23d, hc32d, hc34d, hc36d, hc38d, hr39, hc41d, hc42]
      rw [if_neg (ne_true_of_eq_false hc42)] at h
      simp only [go_sem, seval, hc42]
      repeat with_reducible refine and_bar (by kernel_rfl) ?_
      refine RX_guard_dec rfl (fun hc43 => ?_) (fun hc43 => ?_)
      · have hc43d := decide_eq_true hc43
        rw [if_pos hc43] at h
        simp only [go_sem, seval, hc43d]
        refine hZ _ (by kernel_rfl) (pp (hJ40 _ true ?_ h))
        refine weak_roots ?_ ?_ <;> repeat' first | exact xn | exact rn | refine xc ?_ ?_ | refine rc ?_ ?_ ?_ | rfl | simp only [go_sem, seval, Bool.or_self, List.length_set, Int.natCast_zero, Int.cast_ofNat_Int, hr1, hc2, hc6, hr7, hx11, hi10', hw12, hr14, hc16d, hc23d, hc32d, hc34d, hc36d, hc38d, hr39, hc41d, hc42, hc43d]
      have hc43d := decide_eq_false hc43
      rw [if_neg hc43] at h
      obtain ⟨x51, hb44, hx45, h⟩ := gx_some h
      simp only [go_sem, seval, hc43d, hb44, hx45]
      repeat with_reducible refine and_bar (by kernel_rfl) ?_
      refine RX_guard_nbool rfl (fun hc46 => ?_) (fun hc46 => ?_)
      · rw [if_neg (ne_true_of_eq_false hc46)] at h
        simp only [go_sem, seval, hc46]
        refine hZ _ (by kernel_rfl) (pp (hJ40 _ true ?_ h))
        refine weak_roots ?_ ?_ <;> repeat' first | exact xn | exact rn | refine xc ?_ ?_ | refine rc ?_ ?_ ?_ | rfl | simp only [go_sem, seval, Bool.or_self, List.length_set, Int.natCast_zero, Int.cast_ofNat_Int, hr1, hc2, hc6, hr7, hx11, hi10', hw12, hr14, hc16d, hc23d, hc32d, hc34d, hc36d, hc38d, hr39, hc41d, hc42, hc43d, hb44, hx45, hc46]
      rw [if_pos hc46] at h
      simp only [go_sem, seval, hb44, hx45, hc46]
      repeat with_reducible refine and_bar (by kernel_rfl) ?_
      refine RX_guard_ndec rfl (fun hc47 => ?_) (fun hc47 => ?_)
      · have hc47d := decide_eq_false hc47
        rw [if_neg hc47] at h
        simp only [go_sem, seval, hc47d]
        refine hZ _ (by kernel_rfl) (pp (hJ40 _ true ?_ h))
        refine weak_roots ?_ ?_ <;> repeat' first | exact xn | exact rn | refine xc ?_ ?_ | refine rc ?_ ?_ ?_ | rfl | simp only [go_sem, seval, Bool.or_self, List.length_set, Int.natCast_zero, Int.cast_ofNat_Int, hr1, hc2, hc6, hr7, hx11, hi10', hw12, hr14, hc16d, hc23d, hc32d, hc34d, hc36d, hc38d, hr39, hc41d, hc42, hc43d, hb44, hx45, hc46, hc47d]
      have hc47d := decide_eq_true hc47
      rw [if_pos hc47] at h
      simp only [go_sem, seval, hb44, hx45, hc47d]
      repeat with_reducible refine and_bar (by kernel_rfl) ?_
      refine hZ _ (by kernel_rfl) (pp (hJ40 _ (!decide (((r48.2.1.Path.length : Nat) : Int) = (IntKind.i64.wrap (((x51.Path.length : Nat) : Int) + 1)))) ?_ h))
      refine weak_roots ?_ ?_ <;> repeat' first | exact xn | exact rn | refine xc ?_ ?_ | refine rc ?_ ?_ ?_ | rfl | simp only [go_sem, seval, Bool.or_self, List.length_set, Int.natCast_zero, Int.cast_ofNat_Int, hr1, hc2, hc6, hr7, hx11, hi10', hw12, hr14, hc16d, hc23d, hc32d, hc34d, hc36d, hc38d, hr39, hc41d, hc42, hc43d, hb44, hx45, hc46, hc47d]
    intro c50 h
    unfold law24_TurnsPlays_J4 at h
    refine Wk_cond_bool rfl (fun hc48 => ?_) (fun hc48 => ?_)
    · rw [if_pos hc48] at h
      refine Wk_seq (Wk_regionZ fun Z hZ => ?_)
      simp only [go_sem, seval, hc48]
      refine hZ _ (pp (Wk_ret (pp ?_)))
      cases h
      simp only [go_sem, seval]
      exact ⟨_, rfl, RokI.h, PureI.h⟩
    rw [if_neg (ne_true_of_eq_false hc48)] at h
    refine Wk_skip (pp (hJ15 _ r48.1.Self.Type_ r48.1.Self.Key r48.1.Index r48.1.Stack l13 r48.2.2 ?_ h))
    refine weak_roots ?_ ?_ <;> repeat' first | exact xn | exact rn | refine xc ?_ ?_ | refine rc ?_ ?_ ?_ | rfl | simp only [go_sem, seval, Bool.or_self, List.length_set, Int.natCast_zero, Int.cast_ofNat_Int, hr1, hc2, hc6, hr7, hx11, hi10', hw12, hr14, hc16d, hc23d, hc32d, hc34d, hc36d, hc38d, hr39, hc48]
  intro s34 s35 v36 l37 l38 v39 h
  unfold law24_TurnsPlays_J11 at h
  apply Wk_join5 (fun (s62 : ByteArray) (s63 : ByteArray) (v66 : Int) (l67 : List Turn) (v68 : Int) => ⟨tab 324 (updT (updT (updT (updT (updT (updT deadT 1 (.sl false none 3 none (a1.map actorgridlaw24_Act.row))) 2 (.pref 2 [] 0 0)) 5 (.pref 5 [] 0 0)) 6 (.pal 117 [] 0 l38.length none)) 7 (.val (.int .i64 v68))) 8 (.val (.int .i64 ((v15 : Nat) : Int)))), (upd (upd (upd RZ 2 (.sl true none 2 (some 1) [[.val (.string a0.Type_), .val (.string a0.Key)]])) 5 (.sl true none 4 (some 1) [[.val (.string s62), .val (.string s63), .val (.int .i64 v66), .sl false none 30 none (l67.map Turn.row)]])) 117 (.sl true none 9 none (l38.map Request.row)))⟩)
  · intro hJ59
    refine Wk_seq (Wk_regionZ fun Z hZ => ?_)
    simp only [go_sem, seval]
    refine hZ _ (pp (sw (Wk_cond_dec rfl) (fun hc60 => ?_) (fun hc60 => ?_)))
    · have hc60d := decide_eq_false hc60
      rw [if_neg hc60] at h
      refine Wk_skip (pp (hJ59 _ s9 s10 v11 l12 v14 ?_ h))
      refine weak_roots ?_ ?_ <;> repeat' first | exact xn | exact rn | refine xc ?_ ?_ | refine rc ?_ ?_ ?_ | rfl | simp only [go_sem, seval, Bool.or_self, List.length_set, Int.natCast_zero, Int.cast_ofNat_Int, hr1, hc2, hc6, hr7, hx11, hi10', hw12, hr14, hc60d]
    have hc60d := decide_eq_true hc60
    rw [if_pos hc60] at h
    refine Wk_seq (Wk_regionZ fun Z hZ => ?_)
    simp only [go_sem, seval, hc60d]
    refine hZ _ (pp (Wk_regionZ fun Z hZ => ?_))
    simp only [go_sem, seval]
    refine hZ _ (pp (hJ59 _ s34 s35 v36 l37 (IntKind.i64.wrap (v14 + 1)) ?_ h))
    refine weak_roots ?_ ?_ <;> repeat' first | exact xn | exact rn | refine xc ?_ ?_ | refine rc ?_ ?_ ?_ | rfl | simp only [go_sem, seval, Bool.or_self, List.length_set, Int.natCast_zero, Int.cast_ofNat_Int, hr1, hc2, hc6, hr7, hx11, hi10', hw12, hr14, hc60d]
  intro s62 s63 v66 l67 v68 h
  unfold law24_TurnsPlays_J10 at h
  refine Wk_seq ?_
  apply Wk_join1 (fun (c73 : Bool) => ⟨tab 324 (updT (updT (updT (updT (updT (updT (updT deadT 1 (.sl false none 3 none (a1.map actorgridlaw24_Act.row))) 2 (.pref 2 [] 0 0)) 5 (.pref 5 [] 0 0)) 6 (.pal 117 [] 0 l38.length none)) 7 (.val (.int .i64 v68))) 8 (.val (.int .i64 ((v15 : Nat) : Int)))) 304 (.val (.bool c73))), (upd (upd (upd RZ 2 (.sl true none 2 (some 1) [[.val (.string a0.Type_), .val (.string a0.Key)]])) 5 (.sl true none 4 (some 1) [[.val (.string s62), .val (.string s63), .val (.int .i64 v66), .sl false none 30 none (l67.map Turn.row)]])) 117 (.sl true none 9 none (l38.map Request.row)))⟩)
  · intro hJ61
    obtain ⟨r74, hr62, h⟩ := Option.bind_eq_some_iff.1 h
    refine Wk_regionZ fun Z hZ => ?_
    simp only [go_sem, seval, hr62]
    refine RX_guard_nbool rfl (fun hc63 => ?_) (fun hc63 => ?_)
    · rw [if_neg (ne_true_of_eq_false hc63)] at h
      simp only [go_sem, seval, hc63]
      refine hZ _ (pp (hJ61 _ true ?_ h))
      refine weak_roots ?_ ?_ <;> repeat' first | exact xn | exact rn | refine xc ?_ ?_ | refine rc ?_ ?_ ?_ | rfl | simp only [go_sem, seval, Bool.or_self, List.length_set, Int.natCast_zero, Int.cast_ofNat_Int, hr1, hc2, hc6, hr7, hx11, hi10', hw12, hr14, hr62, hc63]
    rw [if_pos hc63] at h
    simp only [go_sem, seval, hc63]
    refine RX_guard_ndec rfl (fun hc64 => ?_) (fun hc64 => ?_)
    · have hc64d := decide_eq_false hc64
      rw [if_neg hc64] at h
      simp only [go_sem, seval, hc64d]
      refine hZ _ (pp (hJ61 _ true ?_ h))
      refine weak_roots ?_ ?_ <;> repeat' first | exact xn | exact rn | refine xc ?_ ?_ | refine rc ?_ ?_ ?_ | rfl | simp only [go_sem, seval, Bool.or_self, List.length_set, Int.natCast_zero, Int.cast_ofNat_Int, hr1, hc2, hc6, hr7, hx11, hi10', hw12, hr14, hr62, hc63, hc64d]
    have hc64d := decide_eq_true hc64
    rw [if_pos hc64] at h
    simp only [go_sem, seval, hc64d]
    refine RX_guard_ndec rfl (fun hc65 => ?_) (fun hc65 => ?_)
    · have hc65d := decide_eq_false hc65
      rw [if_neg hc65] at h
      simp only [go_sem, seval, hc65d]
      refine hZ _ (pp (hJ61 _ true ?_ h))
      refine weak_roots ?_ ?_ <;> repeat' first | exact xn | exact rn | refine xc ?_ ?_ | refine rc ?_ ?_ ?_ | rfl | simp only [go_sem, seval, Bool.or_self, List.length_set, Int.natCast_zero, Int.cast_ofNat_Int, hr1, hc2, hc6, hr7, hx11, hi10', hw12, hr14, hr62, hc63, hc64d, hc65d]
    have hc65d := decide_eq_true hc65
    rw [if_pos hc65] at h
    simp only [go_sem, seval, hc65d]
    refine hZ _ (pp (hJ61 _ (!(sEq s62 a0.Type_ && sEq s63 a0.Key)) ?_ h))
    refine weak_roots ?_ ?_ <;> repeat' first | exact xn | exact rn | refine xc ?_ ?_ | refine rc ?_ ?_ ?_ | rfl | simp only [go_sem, seval, Bool.or_self, List.length_set, Int.natCast_zero, Int.cast_ofNat_Int, hr1, hc2, hc6, hr7, hx11, hi10', hw12, hr14, hr62, hc63, hc64d, hc65d]
  intro c73 h
  unfold law24_TurnsPlays_J7 at h
  refine Wk_cond_bool rfl (fun hc66 => ?_) (fun hc66 => ?_)
  · rw [if_pos hc66] at h
    refine Wk_seq (Wk_regionZ fun Z hZ => ?_)
    simp only [go_sem, seval, hc66]
    refine hZ _ (pp (Wk_ret (pp ?_)))
    cases h
    simp only [go_sem, seval]
    exact ⟨_, rfl, RokI.h, PureI.h⟩
  rw [if_neg (ne_true_of_eq_false hc66)] at h
  refine Wk_skip (pp ?_)
  unfold law24_TurnsPlays_J9 at h
  refine Wk_seq (Wk_regionZ fun Z hZ => ?_)
  simp only [go_sem, seval, hc66]
  refine hZ _ (pp (Wk_seq (Wk_seq (Wk_regionZ fun Z hZ => ?_))))
  simp only [go_sem, seval]
  refine hZ _ (pp (Wk_block (Wk_real fun hreal68 => ?_)))
  have hl67 := hreal68.cell 5 3 (by simp only [go_sem, seval]; rfl) rfl
  rw [List.length_map] at hl67
  refine Wk_range (fun (v65 : Nat) (b : Int) => ⟨tab 324 (updT (updT (updT (updT (updT (updT (updT (updT deadT 1 (.sl false none 3 none (a1.map actorgridlaw24_Act.row))) 2 (.pref 2 [] 0 0)) 5 (.pref 5 [] 0 0)) 6 (.pal 117 [] 0 l38.length none)) 7 (.val (.int .i64 v68))) 8 (.val (.int .i64 ((v15 : Nat) : Int)))) 17 (.val (.int .i64 b))) 18 (.val (.int .i64 ((v65 : Nat) : Int)))), (upd (upd (upd RZ 2 (.sl true none 2 (some 1) [[.val (.string a0.Type_), .val (.string a0.Key)]])) 5 (.sl true none 4 (some 1) [[.val (.string s62), .val (.string s63), .val (.int .i64 v66), .sl false none 30 none (l67.map Turn.row)]])) 117 (.sl true none 9 none (l38.map Request.row)))⟩) 0 h ?_ ?_
  · refine weak_roots ?_ ?_ <;> repeat' first | exact xn | exact rn | refine xc ?_ ?_ | refine rc ?_ ?_ ?_ | rfl | simp only [go_sem, seval, Bool.or_self, List.length_set, Int.natCast_zero, Int.cast_ofNat_Int, hr1, hc2, hc6, hr7, hx11, hi10', hw12, hr14, hc66]
  rintro v65 v64 hi69 h -
  rcases (drop_cases l67 v65 hi69).symm with ⟨hi69', _, hd72⟩ | ⟨x68, hi69', hx70, hd72⟩
  · rw [hd72] at h
    simp only [law24_TurnsPlays_L2] at h
    refine Wk_seq (Wk_seq (Wk_regionZ fun Z hZ => ?_))
    simp only [go_sem, seval, hi69']
    refine hZ _ (pp ?_)
    try simp only [Int.ofNat_lt, hi10', hi69', if_true, if_false] at h
    refine Wk_cond_f rfl (Wk_exit (pp ?_))
    unfold law24_TurnsPlays_J8 at h
    refine Wk_seq (Wk_regionZ fun Z hZ => ?_)
    simp only [go_sem, seval]
    refine hZ _ (pp (Wk_cond_dec rfl (fun hc74 => ?_) (fun hc74 => ?_)))
    · have hc74d := decide_eq_true hc74
      rw [if_pos hc74] at h
      refine Wk_seq (Wk_regionZ fun Z hZ => ?_)
      simp only [go_sem, seval, hc74d]
      refine hZ _ (pp (Wk_ret (pp ?_)))
      cases h
      simp only [go_sem, seval]
      exact ⟨_, rfl, RokI.h, PureI.h⟩
    have hc74d := decide_eq_false hc74
    rw [if_neg hc74] at h
    refine Wk_skip (pp (Wk_regionZ fun Z hZ => ?_))
    simp only [go_sem, seval, hw12, hc74d]
    refine hZ _ (pp ?_)
    first | refine ⟨(s62, s63, v66, l67, l38, v68), ?_, h⟩ | refine ⟨hi10', (s62, s63, v66, l67, l38, v68), ?_, h⟩
    refine weak_roots ?_ ?_ <;> repeat' first | exact xn | exact rn | refine xc ?_ ?_ | refine rc ?_ ?_ ?_ | rfl | simp only [go_sem, seval, Bool.or_self, List.length_set, Int.natCast_zero, Int.cast_ofNat_Int, hr1, hc2, hc6, hr7, hx11, hi10', hw12, hr14, hc66, hi69', hc74d]
  rw [hd72] at h
  simp only [law24_TurnsPlays_L2] at h
  have hw71 := wrap_succ hi69' hl67
  refine Wk_seq (Wk_seq (Wk_regionZ fun Z hZ => ?_))
  simp only [go_sem, seval, hi69']
  refine hZ _ (pp ?_)
  try simp only [Int.ofNat_lt, hi10', hi69', if_true, if_false] at h
  refine Wk_cond_t rfl (Wk_skip (pp (Wk_seq (Wk_block (Wk_seq ?_)))))
  try rw [gx_nat hx70] at h
  refine Wk_regionZ fun Z hZ => ?_
  simp only [go_sem, seval, hx70, hi69']
  refine hZ _ (pp (Wk_cond_dec rfl (fun hc73 => ?_) (fun hc73 => ?_)))
  · have hc73d := decide_eq_true hc73
    rw [if_pos hc73] at h
    refine Wk_regionZ fun Z hZ => ?_
    simp only [go_sem, seval, hc73d]
    refine hZ _ (pp (Wk_regionZ fun Z hZ => ?_))
    simp only [go_sem, seval, hw71]
    refine hZ _ (pp ?_)
    first | refine ⟨(IntKind.i64.wrap (v64 + 1)), ?_, h⟩ | refine ⟨hi69', (IntKind.i64.wrap (v64 + 1)), ?_, h⟩
    refine weak_roots ?_ ?_ <;> repeat' first | exact xn | exact rn | refine xc ?_ ?_ | refine rc ?_ ?_ ?_ | rfl | simp only [go_sem, seval, Bool.or_self, List.length_set, Int.natCast_zero, Int.cast_ofNat_Int, hr1, hc2, hc6, hr7, hx11, hi10', hw12, hr14, hc66, hx70, hi69', hw71, hc73d]
  have hc73d := decide_eq_false hc73
  rw [if_neg hc73] at h
  refine Wk_skip (pp (Wk_regionZ fun Z hZ => ?_))
  simp only [go_sem, seval, hw71, hc73d]
  refine hZ _ (pp ?_)
  first | refine ⟨v64, ?_, h⟩ | refine ⟨hi69', v64, ?_, h⟩
  refine weak_roots ?_ ?_ <;> repeat' first | exact xn | exact rn | refine xc ?_ ?_ | refine rc ?_ ?_ ?_ | rfl | simp only [go_sem, seval, Bool.or_self, List.length_set, Int.natCast_zero, Int.cast_ofNat_Int, hr1, hc2, hc6, hr7, hx11, hi10', hw12, hr14, hc66, hx70, hi69', hw71, hc73d]
def fs_law24_TurnsPlays (N : Nat) : FnS := ⟨[], true, fn2 Ref.decA (decL 3 actorgridlaw24_Act.dec) fun q0 q1 => (law24_TurnsPlays N q0 q1).map fun r => .val (.bool r), false⟩
attribute [go_sem] fs_law24_TurnsPlays
theorem fs_law24_TurnsPlays_ok (N : Nat) : FSOk Try.prog 6 (fs_law24_TurnsPlays N) := ok2 (fun q0 q1 r h => by
  obtain ⟨r', hr, rfl⟩ := Option.map_eq_some_iff.1 h
  exact w_law24_TurnsPlays N q0 q1 r' hr) (Ref.decA_le) (fun h => decL_le actorgridlaw24_Act.dec_le h)

end Go.Proofs.Ytmgpaicldmgckaa
