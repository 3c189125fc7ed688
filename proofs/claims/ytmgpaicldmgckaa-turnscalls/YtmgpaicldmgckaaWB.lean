/- Walks: each function computes its model. No condition. -/
import Derived.Test.YtmgpaicldmgckaaB
import Derived.Test.YtmgpaicldmgckaaWA
/- Each Go function computes its model: proofs laid by a program of ours. -/
set_option maxHeartbeats 40000000
set_option synthInstance.maxHeartbeats 2000000
set_option synthInstance.maxSize 4000
set_option linter.unusedSimpArgs false
set_option linter.unusedVariables false
set_option maxRecDepth 100000
namespace Go.Proofs.Ytmgpaicldmgckaa
open Go Go.Proofs Go.Abs
theorem w_ref1_ValidValue (N : Nat) (a0 : Value) (r : Bool) (h : ref1_ValidValue N a0 = some r) : Con Try.prog 68 [] true [.agg (Value.row a0)] (.val (.bool r)) := by
  refine fun_ok4 (G := (glist [])) Try.func68 rfl (by decide) (by kernel_rfl) gn [] mix (Nat.le_of_ble_eq_true rfl) ?_
  simp only [Try.f68]
  unfold ref1_ValidValue at h
  refine Ws fun Z hZ => ?_
  simp only [go_sem, seval]
  refine hZ _ (pp (Wk_seq ?_))
  apply Wk_join1 (fun (c3 : Bool) => ⟨tab 104 (updT (updT deadT 1 (.pref 1 [] 0 0)) 48 (.val (.bool c3))), (upd RZ 1 (.sl true none 5 (some 1) [Value.row a0]))⟩)
  · intro hJ1
    refine Wk_regionZ fun Z hZ => ?_
    simp only [go_sem, seval]
    refine sw (RX_guard_ndec rfl) (fun hc2 => ?_) (fun hc2 => ?_)
    · have hc2d := decide_eq_true hc2
      rw [if_pos hc2] at h
      simp only [go_sem, seval, hc2d]
      refine sw (RX_guard_ndec rfl) (fun hc25 => ?_) (fun hc25 => ?_)
      · have hc25d := decide_eq_true hc25
        rw [if_pos hc25] at h
        simp only [go_sem, seval, hc25d]
        refine sw (RX_guard_ndec rfl) (fun hc31 => ?_) (fun hc31 => ?_)
        · have hc31d := decide_eq_true hc31
          rw [if_pos hc31] at h
          simp only [go_sem, seval, hc31d]
          refine RX_guard_ndec rfl (fun hc34 => ?_) (fun hc34 => ?_)
          · have hc34d := decide_eq_false hc34
            rw [if_neg hc34] at h
            simp only [go_sem, seval, hc34d]
            refine hZ _ (pp (hJ1 _ (decide (0 < ((a0.L.length : Nat) : Int))) ?_ h))
            refine wr ?_ ?_ <;> repeat' first | rfl | constructor
          have hc34d := decide_eq_true hc34
          rw [if_pos hc34] at h
          simp only [go_sem, seval, hc34d]
          refine hZ _ (pp (hJ1 _ false ?_ h))
          refine wr ?_ ?_ <;> repeat' first | rfl | constructor
        have hc31d := decide_eq_false hc31
        rw [if_neg hc31] at h
        simp only [go_sem, seval, hc31d]
        refine RX_guard_dec rfl (fun hc32 => ?_) (fun hc32 => ?_)
        · have hc32d := decide_eq_true hc32
          rw [if_pos hc32] at h
          simp only [go_sem, seval, hc32d]
          refine hZ _ (pp (hJ1 _ true ?_ h))
          refine wr ?_ ?_ <;> repeat' first | rfl | constructor
        have hc32d := decide_eq_false hc32
        rw [if_neg hc32] at h
        simp only [go_sem, seval, hc32d]
        refine RX_guard_ndec rfl (fun hc33 => ?_) (fun hc33 => ?_)
        · have hc33d := decide_eq_false hc33
          rw [if_neg hc33] at h
          simp only [go_sem, seval, hc33d]
          refine hZ _ (pp (hJ1 _ (decide (0 < ((a0.L.length : Nat) : Int))) ?_ h))
          refine wr ?_ ?_ <;> repeat' first | rfl | constructor
        have hc33d := decide_eq_true hc33
        rw [if_pos hc33] at h
        simp only [go_sem, seval, hc33d]
        refine hZ _ (pp (hJ1 _ false ?_ h))
        refine wr ?_ ?_ <;> repeat' first | rfl | constructor
      have hc25d := decide_eq_false hc25
      rw [if_neg hc25] at h
      simp only [go_sem, seval, hc25d]
      refine RX_guard_nbool rfl (fun hc26 => ?_) (fun hc26 => ?_)
      · rw [if_neg (ne_true_of_eq_false hc26)] at h
        simp only [go_sem, seval, hc26]
        refine hZ _ (pp (hJ1 _ true ?_ h))
        refine wr ?_ ?_ <;> repeat' first | rfl | constructor
      rw [if_pos hc26] at h
      simp only [go_sem, seval, hc26]
      refine sw (RX_guard_ndec rfl) (fun hc27 => ?_) (fun hc27 => ?_)
      · have hc27d := decide_eq_true hc27
        rw [if_pos hc27] at h
        simp only [go_sem, seval, hc27d]
        refine RX_guard_ndec rfl (fun hc30 => ?_) (fun hc30 => ?_)
        · have hc30d := decide_eq_false hc30
          rw [if_neg hc30] at h
          simp only [go_sem, seval, hc30d]
          refine hZ _ (pp (hJ1 _ (decide (0 < ((a0.L.length : Nat) : Int))) ?_ h))
          refine wr ?_ ?_ <;> repeat' first | rfl | constructor
        have hc30d := decide_eq_true hc30
        rw [if_pos hc30] at h
        simp only [go_sem, seval, hc30d]
        refine hZ _ (pp (hJ1 _ false ?_ h))
        refine wr ?_ ?_ <;> repeat' first | rfl | constructor
      have hc27d := decide_eq_false hc27
      rw [if_neg hc27] at h
      simp only [go_sem, seval, hc27d]
      refine RX_guard_dec rfl (fun hc28 => ?_) (fun hc28 => ?_)
      · have hc28d := decide_eq_true hc28
        rw [if_pos hc28] at h
        simp only [go_sem, seval, hc28d]
        refine hZ _ (pp (hJ1 _ true ?_ h))
        refine wr ?_ ?_ <;> repeat' first | rfl | constructor
      have hc28d := decide_eq_false hc28
      rw [if_neg hc28] at h
      simp only [go_sem, seval, hc28d]
      refine RX_guard_ndec rfl (fun hc29 => ?_) (fun hc29 => ?_)
      · have hc29d := decide_eq_false hc29
        rw [if_neg hc29] at h
        simp only [go_sem, seval, hc29d]
        refine hZ _ (pp (hJ1 _ (decide (0 < ((a0.L.length : Nat) : Int))) ?_ h))
        refine wr ?_ ?_ <;> repeat' first | rfl | constructor
      have hc29d := decide_eq_true hc29
      rw [if_pos hc29] at h
      simp only [go_sem, seval, hc29d]
      refine hZ _ (pp (hJ1 _ false ?_ h))
      refine wr ?_ ?_ <;> repeat' first | rfl | constructor
    have hc2d := decide_eq_false hc2
    rw [if_neg hc2] at h
    simp only [go_sem, seval, hc2d]
    refine sw (RX_guard_ndec rfl) (fun hc3 => ?_) (fun hc3 => ?_)
    · have hc3d := decide_eq_true hc3
      rw [if_pos hc3] at h
      simp only [go_sem, seval, hc3d]
      refine sw (RX_guard_ndec rfl) (fun hc15 => ?_) (fun hc15 => ?_)
      · have hc15d := decide_eq_true hc15
        rw [if_pos hc15] at h
        simp only [go_sem, seval, hc15d]
        refine sw (RX_guard_ndec rfl) (fun hc21 => ?_) (fun hc21 => ?_)
        · have hc21d := decide_eq_true hc21
          rw [if_pos hc21] at h
          simp only [go_sem, seval, hc21d]
          refine RX_guard_ndec rfl (fun hc24 => ?_) (fun hc24 => ?_)
          · have hc24d := decide_eq_false hc24
            rw [if_neg hc24] at h
            simp only [go_sem, seval, hc24d]
            refine hZ _ (pp (hJ1 _ (decide (0 < ((a0.L.length : Nat) : Int))) ?_ h))
            refine wr ?_ ?_ <;> repeat' first | rfl | constructor
          have hc24d := decide_eq_true hc24
          rw [if_pos hc24] at h
          simp only [go_sem, seval, hc24d]
          refine hZ _ (pp (hJ1 _ false ?_ h))
          refine wr ?_ ?_ <;> repeat' first | rfl | constructor
        have hc21d := decide_eq_false hc21
        rw [if_neg hc21] at h
        simp only [go_sem, seval, hc21d]
        refine RX_guard_dec rfl (fun hc22 => ?_) (fun hc22 => ?_)
        · have hc22d := decide_eq_true hc22
          rw [if_pos hc22] at h
          simp only [go_sem, seval, hc22d]
          refine hZ _ (pp (hJ1 _ true ?_ h))
          refine wr ?_ ?_ <;> repeat' first | rfl | constructor
        have hc22d := decide_eq_false hc22
        rw [if_neg hc22] at h
        simp only [go_sem, seval, hc22d]
        refine RX_guard_ndec rfl (fun hc23 => ?_) (fun hc23 => ?_)
        · have hc23d := decide_eq_false hc23
          rw [if_neg hc23] at h
          simp only [go_sem, seval, hc23d]
          refine hZ _ (pp (hJ1 _ (decide (0 < ((a0.L.length : Nat) : Int))) ?_ h))
          refine wr ?_ ?_ <;> repeat' first | rfl | constructor
        have hc23d := decide_eq_true hc23
        rw [if_pos hc23] at h
        simp only [go_sem, seval, hc23d]
        refine hZ _ (pp (hJ1 _ false ?_ h))
        refine wr ?_ ?_ <;> repeat' first | rfl | constructor
      have hc15d := decide_eq_false hc15
      rw [if_neg hc15] at h
      simp only [go_sem, seval, hc15d]
      refine RX_guard_nbool rfl (fun hc16 => ?_) (fun hc16 => ?_)
      · rw [if_neg (ne_true_of_eq_false hc16)] at h
        simp only [go_sem, seval, hc16]
        refine hZ _ (pp (hJ1 _ true ?_ h))
        refine wr ?_ ?_ <;> repeat' first | rfl | constructor
      rw [if_pos hc16] at h
      simp only [go_sem, seval, hc16]
      refine sw (RX_guard_ndec rfl) (fun hc17 => ?_) (fun hc17 => ?_)
      · have hc17d := decide_eq_true hc17
        rw [if_pos hc17] at h
        simp only [go_sem, seval, hc17d]
        refine RX_guard_ndec rfl (fun hc20 => ?_) (fun hc20 => ?_)
        · have hc20d := decide_eq_false hc20
          rw [if_neg hc20] at h
          simp only [go_sem, seval, hc20d]
          refine hZ _ (pp (hJ1 _ (decide (0 < ((a0.L.length : Nat) : Int))) ?_ h))
          refine wr ?_ ?_ <;> repeat' first | rfl | constructor
        have hc20d := decide_eq_true hc20
        rw [if_pos hc20] at h
        simp only [go_sem, seval, hc20d]
        refine hZ _ (pp (hJ1 _ false ?_ h))
        refine wr ?_ ?_ <;> repeat' first | rfl | constructor
      have hc17d := decide_eq_false hc17
      rw [if_neg hc17] at h
      simp only [go_sem, seval, hc17d]
      refine RX_guard_dec rfl (fun hc18 => ?_) (fun hc18 => ?_)
      · have hc18d := decide_eq_true hc18
        rw [if_pos hc18] at h
        simp only [go_sem, seval, hc18d]
        refine hZ _ (pp (hJ1 _ true ?_ h))
        refine wr ?_ ?_ <;> repeat' first | rfl | constructor
      have hc18d := decide_eq_false hc18
      rw [if_neg hc18] at h
      simp only [go_sem, seval, hc18d]
      refine RX_guard_ndec rfl (fun hc19 => ?_) (fun hc19 => ?_)
      · have hc19d := decide_eq_false hc19
        rw [if_neg hc19] at h
        simp only [go_sem, seval, hc19d]
        refine hZ _ (pp (hJ1 _ (decide (0 < ((a0.L.length : Nat) : Int))) ?_ h))
        refine wr ?_ ?_ <;> repeat' first | rfl | constructor
      have hc19d := decide_eq_true hc19
      rw [if_pos hc19] at h
      simp only [go_sem, seval, hc19d]
      refine hZ _ (pp (hJ1 _ false ?_ h))
      refine wr ?_ ?_ <;> repeat' first | rfl | constructor
    have hc3d := decide_eq_false hc3
    rw [if_neg hc3] at h
    simp only [go_sem, seval, hc3d]
    refine RX_guard_ndec rfl (fun hc4 => ?_) (fun hc4 => ?_)
    · have hc4d := decide_eq_false hc4
      rw [if_neg hc4] at h
      simp only [go_sem, seval, hc4d]
      refine hZ _ (pp (hJ1 _ true ?_ h))
      refine wr ?_ ?_ <;> repeat' first | rfl | constructor
    have hc4d := decide_eq_true hc4
    rw [if_pos hc4] at h
    simp only [go_sem, seval, hc4d]
    refine sw (RX_guard_ndec rfl) (fun hc5 => ?_) (fun hc5 => ?_)
    · have hc5d := decide_eq_true hc5
      rw [if_pos hc5] at h
      simp only [go_sem, seval, hc5d]
      refine sw (RX_guard_ndec rfl) (fun hc11 => ?_) (fun hc11 => ?_)
      · have hc11d := decide_eq_true hc11
        rw [if_pos hc11] at h
        simp only [go_sem, seval, hc11d]
        refine RX_guard_ndec rfl (fun hc14 => ?_) (fun hc14 => ?_)
        · have hc14d := decide_eq_false hc14
          rw [if_neg hc14] at h
          simp only [go_sem, seval, hc14d]
          refine hZ _ (pp (hJ1 _ (decide (0 < ((a0.L.length : Nat) : Int))) ?_ h))
          refine wr ?_ ?_ <;> repeat' first | rfl | constructor
        have hc14d := decide_eq_true hc14
        rw [if_pos hc14] at h
        simp only [go_sem, seval, hc14d]
        refine hZ _ (pp (hJ1 _ false ?_ h))
        refine wr ?_ ?_ <;> repeat' first | rfl | constructor
      have hc11d := decide_eq_false hc11
      rw [if_neg hc11] at h
      simp only [go_sem, seval, hc11d]
      refine RX_guard_dec rfl (fun hc12 => ?_) (fun hc12 => ?_)
      · have hc12d := decide_eq_true hc12
        rw [if_pos hc12] at h
        simp only [go_sem, seval, hc12d]
        refine hZ _ (pp (hJ1 _ true ?_ h))
        refine wr ?_ ?_ <;> repeat' first | rfl | constructor
      have hc12d := decide_eq_false hc12
      rw [if_neg hc12] at h
      simp only [go_sem, seval, hc12d]
      refine RX_guard_ndec rfl (fun hc13 => ?_) (fun hc13 => ?_)
      · have hc13d := decide_eq_false hc13
        rw [if_neg hc13] at h
        simp only [go_sem, seval, hc13d]
        refine hZ _ (pp (hJ1 _ (decide (0 < ((a0.L.length : Nat) : Int))) ?_ h))
        refine wr ?_ ?_ <;> repeat' first | rfl | constructor
      have hc13d := decide_eq_true hc13
      rw [if_pos hc13] at h
      simp only [go_sem, seval, hc13d]
      refine hZ _ (pp (hJ1 _ false ?_ h))
      refine wr ?_ ?_ <;> repeat' first | rfl | constructor
    have hc5d := decide_eq_false hc5
    rw [if_neg hc5] at h
    simp only [go_sem, seval, hc5d]
    refine RX_guard_nbool rfl (fun hc6 => ?_) (fun hc6 => ?_)
    · rw [if_neg (ne_true_of_eq_false hc6)] at h
      simp only [go_sem, seval, hc6]
      refine hZ _ (pp (hJ1 _ true ?_ h))
      refine wr ?_ ?_ <;> repeat' first | rfl | constructor
    rw [if_pos hc6] at h
    simp only [go_sem, seval, hc6]
    refine sw (RX_guard_ndec rfl) (fun hc7 => ?_) (fun hc7 => ?_)
    · have hc7d := decide_eq_true hc7
      rw [if_pos hc7] at h
      simp only [go_sem, seval, hc7d]
      refine RX_guard_ndec rfl (fun hc10 => ?_) (fun hc10 => ?_)
      · have hc10d := decide_eq_false hc10
        rw [if_neg hc10] at h
        simp only [go_sem, seval, hc10d]
        refine hZ _ (pp (hJ1 _ (decide (0 < ((a0.L.length : Nat) : Int))) ?_ h))
        refine wr ?_ ?_ <;> repeat' first | rfl | constructor
      have hc10d := decide_eq_true hc10
      rw [if_pos hc10] at h
      simp only [go_sem, seval, hc10d]
      refine hZ _ (pp (hJ1 _ false ?_ h))
      refine wr ?_ ?_ <;> repeat' first | rfl | constructor
    have hc7d := decide_eq_false hc7
    rw [if_neg hc7] at h
    simp only [go_sem, seval, hc7d]
    refine RX_guard_dec rfl (fun hc8 => ?_) (fun hc8 => ?_)
    · have hc8d := decide_eq_true hc8
      rw [if_pos hc8] at h
      simp only [go_sem, seval, hc8d]
      refine hZ _ (pp (hJ1 _ true ?_ h))
      refine wr ?_ ?_ <;> repeat' first | rfl | constructor
    have hc8d := decide_eq_false hc8
    rw [if_neg hc8] at h
    simp only [go_sem, seval, hc8d]
    refine RX_guard_ndec rfl (fun hc9 => ?_) (fun hc9 => ?_)
    · have hc9d := decide_eq_false hc9
      rw [if_neg hc9] at h
      simp only [go_sem, seval, hc9d]
      refine hZ _ (pp (hJ1 _ (decide (0 < ((a0.L.length : Nat) : Int))) ?_ h))
      refine wr ?_ ?_ <;> repeat' first | rfl | constructor
    have hc9d := decide_eq_true hc9
    rw [if_pos hc9] at h
    simp only [go_sem, seval, hc9d]
    refine hZ _ (pp (hJ1 _ false ?_ h))
    refine wr ?_ ?_ <;> repeat' first | rfl | constructor
  intro c3 h
  unfold ref1_ValidValue_J1 at h
  refine Wk_cond_bool rfl (fun hc35 => ?_) (fun hc35 => ?_)
  · rw [if_pos hc35] at h
    refine Ws fun Z hZ => ?_
    simp only [go_sem, seval, hc35]
    refine hZ _ (pp (Wk_ret (pp ?_)))
    cases h
    simp only [go_sem, seval]
    exact ⟨_, rfl, RokI.h, PureI.h⟩
  rw [if_neg (ne_true_of_eq_false hc35)] at h
  refine Wk_skip (pp ?_)
  unfold ref1_ValidValue_J4 at h
  refine Wk_seq ?_
  apply Wk_join1 (fun (c6 : Bool) => ⟨tab 104 (updT (updT deadT 1 (.pref 1 [] 0 0)) 89 (.val (.bool c6))), (upd RZ 1 (.sl true none 5 (some 1) [Value.row a0]))⟩)
  · intro hJ36
    refine Wk_regionZ fun Z hZ => ?_
    simp only [go_sem, seval, hc35]
    refine RX_guard_dec rfl (fun hc37 => ?_) (fun hc37 => ?_)
    · have hc37d := decide_eq_true hc37
      rw [if_pos hc37] at h
      simp only [go_sem, seval, hc37d]
      refine hZ _ (pp (hJ36 _ true ?_ h))
      refine wr ?_ ?_ <;> repeat' first | rfl | constructor
    have hc37d := decide_eq_false hc37
    rw [if_neg hc37] at h
    simp only [go_sem, seval, hc37d]
    refine RX_guard_dec rfl (fun hc38 => ?_) (fun hc38 => ?_)
    · have hc38d := decide_eq_true hc38
      rw [if_pos hc38] at h
      simp only [go_sem, seval, hc38d]
      refine hZ _ (pp (hJ36 _ true ?_ h))
      refine wr ?_ ?_ <;> repeat' first | rfl | constructor
    have hc38d := decide_eq_false hc38
    rw [if_neg hc38] at h
    simp only [go_sem, seval, hc38d]
    refine sw (RX_guard_dec rfl) (fun hc39 => ?_) (fun hc39 => ?_)
    · have hc39d := decide_eq_false hc39
      rw [if_neg hc39] at h
      simp only [go_sem, seval, hc39d]
      refine RX_guard_dec rfl (fun hc46 => ?_) (fun hc46 => ?_)
      · have hc46d := decide_eq_true hc46
        rw [if_pos hc46] at h
        simp only [go_sem, seval, hc46d]
        refine hZ _ (pp (hJ36 _ true ?_ h))
        refine wr ?_ ?_ <;> repeat' first | rfl | constructor
      have hc46d := decide_eq_false hc46
      rw [if_neg hc46] at h
      simp only [go_sem, seval, hc46d]
      refine RX_guard_dec rfl (fun hc47 => ?_) (fun hc47 => ?_)
      · have hc47d := decide_eq_true hc47
        rw [if_pos hc47] at h
        simp only [go_sem, seval, hc47d]
        refine hZ _ (pp (hJ36 _ true ?_ h))
        refine wr ?_ ?_ <;> repeat' first | rfl | constructor
      have hc47d := decide_eq_false hc47
      rw [if_neg hc47] at h
      simp only [go_sem, seval, hc47d]
      refine hZ _ (pp (hJ36 _ (decide (16 < ((a0.L.length : Nat) : Int))) ?_ h))
      refine wr ?_ ?_ <;> repeat' first | rfl | constructor
    have hc39d := decide_eq_true hc39
    rw [if_pos hc39] at h
    simp only [go_sem, seval, hc39d]
    refine sw (RX_guard_ndec rfl) (fun hc40 => ?_) (fun hc40 => ?_)
    · have hc40d := decide_eq_true hc40
      rw [if_pos hc40] at h
      simp only [go_sem, seval, hc40d]
      refine RX_guard_dec rfl (fun hc44 => ?_) (fun hc44 => ?_)
      · have hc44d := decide_eq_true hc44
        rw [if_pos hc44] at h
        simp only [go_sem, seval, hc44d]
        refine hZ _ (pp (hJ36 _ true ?_ h))
        refine wr ?_ ?_ <;> repeat' first | rfl | constructor
      have hc44d := decide_eq_false hc44
      rw [if_neg hc44] at h
      simp only [go_sem, seval, hc44d]
      refine RX_guard_dec rfl (fun hc45 => ?_) (fun hc45 => ?_)
      · have hc45d := decide_eq_true hc45
        rw [if_pos hc45] at h
        simp only [go_sem, seval, hc45d]
        refine hZ _ (pp (hJ36 _ true ?_ h))
        refine wr ?_ ?_ <;> repeat' first | rfl | constructor
      have hc45d := decide_eq_false hc45
      rw [if_neg hc45] at h
      simp only [go_sem, seval, hc45d]
      refine hZ _ (pp (hJ36 _ (decide (16 < ((a0.L.length : Nat) : Int))) ?_ h))
      refine wr ?_ ?_ <;> repeat' first | rfl | constructor
    have hc40d := decide_eq_false hc40
    rw [if_neg hc40] at h
    simp only [go_sem, seval, hc40d]
    refine RX_guard_ndec rfl (fun hc41 => ?_) (fun hc41 => ?_)
    · have hc41d := decide_eq_false hc41
      rw [if_neg hc41] at h
      simp only [go_sem, seval, hc41d]
      refine hZ _ (pp (hJ36 _ true ?_ h))
      refine wr ?_ ?_ <;> repeat' first | rfl | constructor
    have hc41d := decide_eq_true hc41
    rw [if_pos hc41] at h
    simp only [go_sem, seval, hc41d]
    refine RX_guard_dec rfl (fun hc42 => ?_) (fun hc42 => ?_)
    · have hc42d := decide_eq_true hc42
      rw [if_pos hc42] at h
      simp only [go_sem, seval, hc42d]
      refine hZ _ (pp (hJ36 _ true ?_ h))
      refine wr ?_ ?_ <;> repeat' first | rfl | constructor
    have hc42d := decide_eq_false hc42
    rw [if_neg hc42] at h
    simp only [go_sem, seval, hc42d]
    refine RX_guard_dec rfl (fun hc43 => ?_) (fun hc43 => ?_)
    · have hc43d := decide_eq_true hc43
      rw [if_pos hc43] at h
      simp only [go_sem, seval, hc43d]
      refine hZ _ (pp (hJ36 _ true ?_ h))
      refine wr ?_ ?_ <;> repeat' first | rfl | constructor
    have hc43d := decide_eq_false hc43
    rw [if_neg hc43] at h
    simp only [go_sem, seval, hc43d]
    refine hZ _ (pp (hJ36 _ (decide (16 < ((a0.L.length : Nat) : Int))) ?_ h))
    refine wr ?_ ?_ <;> repeat' first | rfl | constructor
  intro c6 h
  unfold ref1_ValidValue_J2 at h
  refine Wk_cond_bool rfl (fun hc48 => ?_) (fun hc48 => ?_)
  · rw [if_pos hc48] at h
    refine Ws fun Z hZ => ?_
    simp only [go_sem, seval, hc48]
    refine hZ _ (pp (Wk_ret (pp ?_)))
    cases h
    simp only [go_sem, seval]
    exact ⟨_, rfl, RokI.h, PureI.h⟩
  rw [if_neg (ne_true_of_eq_false hc48)] at h
  refine Wk_skip (pp ?_)
  unfold ref1_ValidValue_J3 at h
  refine Wk_seq (Ws fun Z hZ => ?_)
  simp only [go_sem, seval, hc48]
  refine hZ _ (pp (Wk_block (Wk_real fun hreal50 => ?_)))
  have hl49 := hreal50.cell 1 4 (by simp only [go_sem, seval]; rfl) rfl
  rw [List.length_map] at hl49
  refine Wk_range (fun (v8 : Nat) (b : Unit) => ⟨tab 104 (updT (updT deadT 1 (.pref 1 [] 0 0)) 3 (.val (.int .i64 ((v8 : Nat) : Int)))), (upd RZ 1 (.sl true none 5 (some 1) [Value.row a0]))⟩) () h ?_ ?_
  · refine wr ?_ ?_ <;> repeat' first | rfl | constructor
  rintro v8 ⟨⟩ hi51 h -
  rcases (drop_cases a0.L v8 hi51).symm with ⟨hi51', _, hd54⟩ | ⟨x11, hi51', hx52, hd54⟩
  · rw [hd54] at h
    simp only [ref1_ValidValue_L1] at h
    refine Wk_seq (Ws fun Z hZ => ?_)
    simp only [go_sem, seval, hi51']
    refine hZ _ (pp ?_)
    try simp only [Int.ofNat_lt, hi51', if_true, if_false] at h
    refine Wk_cond_f rfl (Wk_exit (pp (Ws fun Z hZ => ?_)))
    simp only [go_sem, seval]
    refine hZ _ (pp (Wk_ret (pp ?_)))
    cases h
    simp only [go_sem, seval]
    exact ⟨_, rfl, RokI.h, PureI.h⟩
  rw [hd54] at h
  simp only [ref1_ValidValue_L1] at h
  have hw53 := wrap_succ hi51' hl49
  refine Wk_seq (Ws fun Z hZ => ?_)
  simp only [go_sem, seval, hi51']
  refine hZ _ (pp ?_)
  try simp only [Int.ofNat_lt, hi51', if_true, if_false] at h
  refine Wk_cond_t rfl (Wk_skip (pp (Wk_seq (Wk_block (Wk_seq ?_)))))
  try rw [gx_nat hx52] at h
  refine Wk_regionZ fun Z hZ => ?_
  simp only [go_sem, seval, hx52, hi51']
  refine hZ _ (pp (Wk_cond_dec rfl (fun hc55 => ?_) (fun hc55 => ?_)))
  · have hc55d := decide_eq_true hc55
    rw [if_pos hc55] at h
    refine Ws fun Z hZ => ?_
    simp only [go_sem, seval, hc55d]
    refine hZ _ (pp (Wk_ret (pp ?_)))
    cases h
    simp only [go_sem, seval]
    exact ⟨_, rfl, RokI.h, PureI.h⟩
  have hc55d := decide_eq_false hc55
  rw [if_neg hc55] at h
  refine Wk_skip (pp (Wk_regionZ fun Z hZ => ?_))
  simp only [go_sem, seval, hw53, hc55d]
  refine hZ _ (pp ?_)
  first | refine ⟨(), ?_, h⟩ | refine ⟨hi51', (), ?_, h⟩
  refine wr ?_ ?_ <;> repeat' first | rfl | constructor
def fs_ref1_ValidValue (N : Nat) : FnS := ⟨[], true, fn1 Value.decA fun q0 => (ref1_ValidValue N q0).map fun r => .val (.bool r), false⟩
attribute [go_sem] fs_ref1_ValidValue
theorem fs_ref1_ValidValue_ok (N : Nat) : FSOk Try.prog 68 (fs_ref1_ValidValue N) := ok1 (fun q0 r h => by
  obtain ⟨r', hr, rfl⟩ := Option.map_eq_some_iff.1 h
  exact w_ref1_ValidValue N q0 r' hr) (Value.decA_le)


noncomputable def G_ref24_validArgs (N d f : Nat) : Option FnS := glist [(14, 68, fs_ref1_ValidValue N)] d f
attribute [go_sem] G_ref24_validArgs
theorem w_ref24_validArgs (N : Nat) (a0 : (List Value)) (r : Bool) (h : ref24_validArgs N a0 = some r) : Con Try.prog 66 [] true [.sl false none 5 none (a0.map Value.row)] (.val (.bool r)) := by
  refine fun_ok4 (G := (G_ref24_validArgs N)) Try.func66 rfl (by decide) (by kernel_rfl) (gc 14 (fs_ref1_ValidValue_ok N) gn) [] mix (Nat.le_of_ble_eq_true rfl) ?_
  simp only [Try.f66]
  unfold ref24_validArgs at h
  refine Ws fun Z hZ => ?_
  simp only [go_sem, seval]
  refine hZ _ (pp (Wk_seq (Ws fun Z hZ => ?_)))
  simp only [go_sem, seval]
  refine hZ _ (pp (Wk_block (Wk_real fun hreal2 => ?_)))
  have hl1 := hreal2.lenT 0 (by decide) (by simp only [go_sem, seval]; rfl)
  rw [List.length_map] at hl1
  refine Wk_range (fun (v2 : Nat) (b : Unit) => ⟨tab 27 (updT (updT deadT 0 (.sl false none 5 none (a0.map Value.row))) 3 (.val (.int .i64 ((v2 : Nat) : Int)))), RZ⟩) () h ?_ ?_
  · refine wr ?_ ?_ <;> repeat' first | rfl | constructor
  rintro v2 ⟨⟩ hi3 h -
  rcases (drop_cases a0 v2 hi3).symm with ⟨hi3', _, hd6⟩ | ⟨x5, hi3', hx4, hd6⟩
  · rw [hd6] at h
    simp only [ref24_validArgs_L1] at h
    refine Wk_seq (Ws fun Z hZ => ?_)
    simp only [go_sem, seval, hi3']
    refine hZ _ (pp ?_)
    try simp only [Int.ofNat_lt, hi3', if_true, if_false] at h
    refine Wk_cond_f rfl (Wk_exit (pp (Ws fun Z hZ => ?_)))
    simp only [go_sem, seval]
    refine hZ _ (pp (Wk_ret (pp ?_)))
    cases h
    simp only [go_sem, seval]
    exact ⟨_, rfl, RokI.h, PureI.h⟩
  rw [hd6] at h
  simp only [ref24_validArgs_L1] at h
  have hw5 := wrap_succ hi3' hl1
  refine Wk_seq (Ws fun Z hZ => ?_)
  simp only [go_sem, seval, hi3']
  refine hZ _ (pp ?_)
  try simp only [Int.ofNat_lt, hi3', if_true, if_false] at h
  refine Wk_cond_t rfl (Wk_skip (pp (Wk_seq (Wk_block ?_))))
  apply Wk_join1 (fun (c2 : Bool) => ⟨tab 27 (updT (updT (updT deadT 0 (.sl false none 5 none (a0.map Value.row))) 3 (.val (.int .i64 ((v2 : Nat) : Int)))) 23 (.val (.bool c2))), RZ⟩)
  · intro hJ7
    try rw [gx_nat hx4] at h
    obtain ⟨r3, hr8, h⟩ := Option.bind_eq_some_iff.1 h
    refine Wk_regionZ fun Z hZ => ?_
    simp only [go_sem, seval, hx4, hi3', hr8]
    refine RX_guard_nbool rfl (fun hc9 => ?_) (fun hc9 => ?_)
    · rw [if_neg (ne_true_of_eq_false hc9)] at h
      simp only [go_sem, seval, hc9]
      refine hZ _ (pp (hJ7 _ true ?_ h))
      refine wr ?_ ?_ <;> repeat' first | rfl | constructor
    rw [if_pos hc9] at h
    try rw [gx_nat hx4] at h
    simp only [go_sem, seval, hx4, hi3', hc9]
    refine hZ _ (pp (hJ7 _ (decide (x5.Kind = 0)) ?_ h))
    refine wr ?_ ?_ <;> repeat' first | rfl | constructor
  intro c2 h
  unfold ref24_validArgs_J1 at h
  refine Wk_cond_bool rfl (fun hc10 => ?_) (fun hc10 => ?_)
  · rw [if_pos hc10] at h
    refine Ws fun Z hZ => ?_
    simp only [go_sem, seval, hc10]
    refine hZ _ (pp (Wk_ret (pp ?_)))
    cases h
    simp only [go_sem, seval]
    exact ⟨_, rfl, RokI.h, PureI.h⟩
  rw [if_neg (ne_true_of_eq_false hc10)] at h
  refine Wk_skip (pp (Wk_regionZ fun Z hZ => ?_))
  simp only [go_sem, seval, hw5, hc10]
  refine hZ _ (pp ?_)
  first | refine ⟨(), ?_, h⟩ | refine ⟨hi3', (), ?_, h⟩
  refine wr ?_ ?_ <;> repeat' first | rfl | constructor
def fs_ref24_validArgs (N : Nat) : FnS := ⟨[], true, fn1 (decL 5 Value.dec) fun q0 => (ref24_validArgs N q0).map fun r => .val (.bool r), false⟩
attribute [go_sem] fs_ref24_validArgs
theorem fs_ref24_validArgs_ok (N : Nat) : FSOk Try.prog 66 (fs_ref24_validArgs N) := ok1 (fun q0 r h => by
  obtain ⟨r', hr, rfl⟩ := Option.map_eq_some_iff.1 h
  exact w_ref24_validArgs N q0 r' hr) (fun h => decL_le Value.dec_le h)


noncomputable def G_ref24_ValidRequest (N d f : Nat) : Option FnS := glist [(6, 64, fs_ref24_ValidName N), (21, 65, fs_ref24_validPath N), (27, 46, fs_ref14_ValidRef N), (33, 64, fs_ref24_ValidName N), (39, 66, fs_ref24_validArgs N), (73, 46, fs_ref14_ValidRef N)] d f
attribute [go_sem] G_ref24_ValidRequest
theorem w_ref24_ValidRequest (N : Nat) (a0 : Request) (r : Bool) (h : ref24_ValidRequest N a0 = some r) : Con Try.prog 18 [] true [.agg (Request.row a0)] (.val (.bool r)) := by
  refine fun_ok4 (G := (G_ref24_ValidRequest N)) Try.func18 rfl (by decide) (by kernel_rfl) (gc 6 (fs_ref24_ValidName_ok N) (gc 21 (fs_ref24_validPath_ok N) (gc 27 (fs_ref14_ValidRef_ok N) (gc 33 (fs_ref24_ValidName_ok N) (gc 39 (fs_ref24_validArgs_ok N) (gc 73 (fs_ref14_ValidRef_ok N) gn)))))) [] mix (Nat.le_of_ble_eq_true rfl) ?_
  simp only [Try.f18]
  unfold ref24_ValidRequest at h
  refine Ws fun Z hZ => ?_
  simp only [go_sem, seval]
  refine hZ _ (pp (Wk_seq ?_))
  apply Wk_join1 (fun (c13 : Bool) => ⟨tab 75 (updT (updT deadT 1 (.pref 1 [] 0 0)) 60 (.val (.bool c13))), (upd RZ 1 (.sl true none 9 (some 1) [Request.row a0]))⟩)
  · intro hJ1
    obtain ⟨r14, hr2, h⟩ := Option.bind_eq_some_iff.1 h
    refine Wk_regionZ fun Z hZ => ?_
    simp only [go_sem, seval, hr2]
    refine RX_guard_nbool rfl (fun hc3 => ?_) (fun hc3 => ?_)
    · rw [if_neg (ne_true_of_eq_false hc3)] at h
      simp only [go_sem, seval, hc3]
      refine hZ _ (pp (hJ1 _ true ?_ h))
      refine wr ?_ ?_ <;> repeat' first | rfl | constructor
    rw [if_pos hc3] at h
    simp only [go_sem, seval, hc3]
    refine RX_guard_dec rfl (fun hc4 => ?_) (fun hc4 => ?_)
    · have hc4d := decide_eq_true hc4
      rw [if_pos hc4] at h
      simp only [go_sem, seval, hc4d]
      refine hZ _ (pp (hJ1 _ true ?_ h))
      refine wr ?_ ?_ <;> repeat' first | rfl | constructor
    have hc4d := decide_eq_false hc4
    rw [if_neg hc4] at h
    simp only [go_sem, seval, hc4d]
    refine RX_guard_dec rfl (fun hc5 => ?_) (fun hc5 => ?_)
    · have hc5d := decide_eq_true hc5
      rw [if_pos hc5] at h
      simp only [go_sem, seval, hc5d]
      refine hZ _ (pp (hJ1 _ true ?_ h))
      refine wr ?_ ?_ <;> repeat' first | rfl | constructor
    have hc5d := decide_eq_false hc5
    rw [if_neg hc5] at h
    obtain ⟨r15, hr6, h⟩ := Option.bind_eq_some_iff.1 h
    simp only [go_sem, seval, hc5d, hr6]
    refine RX_guard_nbool rfl (fun hc7 => ?_) (fun hc7 => ?_)
    · rw [if_neg (ne_true_of_eq_false hc7)] at h
      simp only [go_sem, seval, hc7]
      refine hZ _ (pp (hJ1 _ true ?_ h))
      refine wr ?_ ?_ <;> repeat' first | rfl | constructor
    rw [if_pos hc7] at h
    obtain ⟨r16, hr8, h⟩ := Option.bind_eq_some_iff.1 h
    simp only [go_sem, seval, hc7, hr8]
    refine RX_guard_nbool rfl (fun hc9 => ?_) (fun hc9 => ?_)
    · rw [if_neg (ne_true_of_eq_false hc9)] at h
      simp only [go_sem, seval, hc9]
      refine hZ _ (pp (hJ1 _ true ?_ h))
      refine wr ?_ ?_ <;> repeat' first | rfl | constructor
    rw [if_pos hc9] at h
    obtain ⟨r17, hr10, h⟩ := Option.bind_eq_some_iff.1 h
    simp only [go_sem, seval, hc9, hr10]
    refine RX_guard_nbool rfl (fun hc11 => ?_) (fun hc11 => ?_)
    · rw [if_neg (ne_true_of_eq_false hc11)] at h
      simp only [go_sem, seval, hc11]
      refine hZ _ (pp (hJ1 _ true ?_ h))
      refine wr ?_ ?_ <;> repeat' first | rfl | constructor
    rw [if_pos hc11] at h
    obtain ⟨r18, hr12, h⟩ := Option.bind_eq_some_iff.1 h
    simp only [go_sem, seval, hc11, hr12]
    refine RX_guard_nbool rfl (fun hc13 => ?_) (fun hc13 => ?_)
    · rw [if_neg (ne_true_of_eq_false hc13)] at h
      simp only [go_sem, seval, hc13]
      refine hZ _ (pp (hJ1 _ true ?_ h))
      refine wr ?_ ?_ <;> repeat' first | rfl | constructor
    rw [if_pos hc13] at h
    simp only [go_sem, seval, hc13]
    refine RX_guard_ndec rfl (fun hc14 => ?_) (fun hc14 => ?_)
    · have hc14d := decide_eq_false hc14
      rw [if_neg hc14] at h
      simp only [go_sem, seval, hc14d]
      refine hZ _ (pp (hJ1 _ true ?_ h))
      refine wr ?_ ?_ <;> repeat' first | rfl | constructor
    have hc14d := decide_eq_true hc14
    rw [if_pos hc14] at h
    simp only [go_sem, seval, hc14d]
    refine RX_guard_dec rfl (fun hc15 => ?_) (fun hc15 => ?_)
    · have hc15d := decide_eq_true hc15
      rw [if_pos hc15] at h
      simp only [go_sem, seval, hc15d]
      refine hZ _ (pp (hJ1 _ true ?_ h))
      refine wr ?_ ?_ <;> repeat' first | rfl | constructor
    have hc15d := decide_eq_false hc15
    rw [if_neg hc15] at h
    simp only [go_sem, seval, hc15d]
    refine hZ _ (pp (hJ1 _ (decide (1099511627776 < a0.Txn)) ?_ h))
    refine wr ?_ ?_ <;> repeat' first | rfl | constructor
  intro c13 h
  unfold ref24_ValidRequest_J1 at h
  refine Wk_cond_bool rfl (fun hc16 => ?_) (fun hc16 => ?_)
  · rw [if_pos hc16] at h
    refine Ws fun Z hZ => ?_
    simp only [go_sem, seval, hc16]
    refine hZ _ (pp (Wk_ret (pp ?_)))
    cases h
    simp only [go_sem, seval]
    exact ⟨_, rfl, RokI.h, PureI.h⟩
  rw [if_neg (ne_true_of_eq_false hc16)] at h
  refine Wk_skip (pp ?_)
  unfold ref24_ValidRequest_J2 at h
  refine Wk_seq (Ws fun Z hZ => ?_)
  simp only [go_sem, seval, hc16]
  refine hZ _ (pp (Wk_block (Wk_real fun hreal18 => ?_)))
  have hl17 := hreal18.cell 1 7 (by simp only [go_sem, seval]; rfl) rfl
  rw [List.length_map] at hl17
  refine Wk_range (fun (v10 : Nat) (b : Unit) => ⟨tab 75 (updT (updT deadT 1 (.pref 1 [] 0 0)) 3 (.val (.int .i64 ((v10 : Nat) : Int)))), (upd RZ 1 (.sl true none 9 (some 1) [Request.row a0]))⟩) () h ?_ ?_
  · refine wr ?_ ?_ <;> repeat' first | rfl | constructor
  rintro v10 ⟨⟩ hi19 h -
  rcases (drop_cases a0.Chain v10 hi19).symm with ⟨hi19', _, hd22⟩ | ⟨x13, hi19', hx20, hd22⟩
  · rw [hd22] at h
    simp only [ref24_ValidRequest_L1] at h
    refine Wk_seq (Ws fun Z hZ => ?_)
    simp only [go_sem, seval, hi19']
    refine hZ _ (pp ?_)
    try simp only [Int.ofNat_lt, hi19', if_true, if_false] at h
    refine Wk_cond_f rfl (Wk_exit (pp (Ws fun Z hZ => ?_)))
    simp only [go_sem, seval]
    refine hZ _ (pp (Wk_ret (pp ?_)))
    cases h
    simp only [go_sem, seval]
    exact ⟨_, rfl, RokI.h, PureI.h⟩
  rw [hd22] at h
  simp only [ref24_ValidRequest_L1] at h
  have hw21 := wrap_succ hi19' hl17
  refine Wk_seq (Ws fun Z hZ => ?_)
  simp only [go_sem, seval, hi19']
  refine hZ _ (pp ?_)
  try simp only [Int.ofNat_lt, hi19', if_true, if_false] at h
  refine Wk_cond_t rfl (Wk_skip (pp (Wk_seq (Wk_block (Wk_seq ?_)))))
  try rw [gx_nat hx20] at h
  obtain ⟨r19, hr23, h⟩ := Option.bind_eq_some_iff.1 h
  refine Wk_regionZ fun Z hZ => ?_
  simp only [go_sem, seval, hx20, hi19', hr23]
  refine hZ _ (pp (Wk_cond_nbool rfl (fun hc24 => ?_) (fun hc24 => ?_)))
  · rw [if_neg (ne_true_of_eq_false hc24)] at h
    refine Ws fun Z hZ => ?_
    simp only [go_sem, seval, hc24]
    refine hZ _ (pp (Wk_ret (pp ?_)))
    cases h
    simp only [go_sem, seval]
    exact ⟨_, rfl, RokI.h, PureI.h⟩
  rw [if_pos hc24] at h
  refine Wk_skip (pp (Wk_regionZ fun Z hZ => ?_))
  simp only [go_sem, seval, hw21, hc24]
  refine hZ _ (pp ?_)
  first | refine ⟨(), ?_, h⟩ | refine ⟨hi19', (), ?_, h⟩
  refine wr ?_ ?_ <;> repeat' first | rfl | constructor
def fs_ref24_ValidRequest (N : Nat) : FnS := ⟨[], true, fn1 Request.decA fun q0 => (ref24_ValidRequest N q0).map fun r => .val (.bool r), false⟩
attribute [go_sem] fs_ref24_ValidRequest
theorem fs_ref24_ValidRequest_ok (N : Nat) : FSOk Try.prog 18 (fs_ref24_ValidRequest N) := ok1 (fun q0 r h => by
  obtain ⟨r', hr, rfl⟩ := Option.map_eq_some_iff.1 h
  exact w_ref24_ValidRequest N q0 r' hr) (Request.decA_le)


theorem w_ref1_SameInts (N : Nat) (a0 : (List Int)) (a1 : (List Int)) (r : Bool) (h : ref1_SameInts N a0 a1 = some r) : Con Try.prog 48 [] true [.sl false none 1 none (a0.map (rowI .i64)), .sl false none 1 none (a1.map (rowI .i64))] (.val (.bool r)) := by
  refine fun_ok4 (G := (glist [])) Try.func48 rfl (by decide) (by kernel_rfl) gn [] mix (Nat.le_of_ble_eq_true rfl) ?_
  simp only [Try.f48]
  unfold ref1_SameInts at h
  refine Ws fun Z hZ => ?_
  simp only [go_sem, seval]
  refine hZ _ (pp (Wk_seq (Ws fun Z hZ => ?_)))
  simp only [go_sem, seval]
  refine hZ _ (pp (Wk_cond_ndec rfl (fun hc1 => ?_) (fun hc1 => ?_)))
  · have hc1d := decide_eq_false hc1
    rw [if_neg hc1] at h
    refine Ws fun Z hZ => ?_
    simp only [go_sem, seval, hc1d]
    refine hZ _ (pp (Wk_ret (pp ?_)))
    cases h
    simp only [go_sem, seval]
    exact ⟨_, rfl, RokI.h, PureI.h⟩
  have hc1d := decide_eq_true hc1
  rw [if_pos hc1] at h
  refine Wk_skip (pp (Wk_seq (Ws fun Z hZ => ?_)))
  simp only [go_sem, seval, hc1d]
  refine hZ _ (pp (Wk_block (Wk_real fun hreal3 => ?_)))
  have hl2 := hreal3.lenT 0 (by decide) (by simp only [go_sem, seval]; rfl)
  rw [List.length_map] at hl2
  refine Wk_range (fun (v3 : Nat) (b : Unit) => ⟨tab 26 (updT (updT (updT deadT 0 (.sl false none 1 none (a0.map (rowI .i64)))) 1 (.sl false none 1 none (a1.map (rowI .i64)))) 5 (.val (.int .i64 ((v3 : Nat) : Int)))), RZ⟩) () h ?_ ?_
  · refine wr ?_ ?_ <;> repeat' first | rfl | constructor
  rintro v3 ⟨⟩ hi4 h -
  rcases (drop_cases a0 v3 hi4).symm with ⟨hi4', _, hd7⟩ | ⟨x6, hi4', hx5, hd7⟩
  · rw [hd7] at h
    simp only [ref1_SameInts_L1] at h
    refine Wk_seq (Ws fun Z hZ => ?_)
    simp only [go_sem, seval, hi4']
    refine hZ _ (pp ?_)
    try simp only [Int.ofNat_lt, hi4', if_true, if_false] at h
    refine Wk_cond_f rfl (Wk_exit (pp (Ws fun Z hZ => ?_)))
    simp only [go_sem, seval]
    refine hZ _ (pp (Wk_ret (pp ?_)))
    cases h
    simp only [go_sem, seval]
    exact ⟨_, rfl, RokI.h, PureI.h⟩
  rw [hd7] at h
  simp only [ref1_SameInts_L1] at h
  have hw6 := wrap_succ hi4' hl2
  refine Wk_seq (Ws fun Z hZ => ?_)
  simp only [go_sem, seval, hi4']
  refine hZ _ (pp ?_)
  try simp only [Int.ofNat_lt, hi4', if_true, if_false] at h
  refine Wk_cond_t rfl (Wk_skip (pp (Wk_seq (Wk_block (Wk_seq ?_)))))
  try rw [gx_nat hx5] at h
  obtain ⟨x1, hb8, hx9, h⟩ := gx_some h
  try simp only [Int.toNat_natCast] at hx9
  try simp only [Int.ofNat_lt, Int.natCast_nonneg, true_and] at hb8
  refine Wk_regionD fun Z hZ => ?_
  simp only [go_sem, seval, hx5, hi4', hb8, hx9]
  refine hZ _ (by kernel_rfl) (pp (Wk_cond_ndec rfl (fun hc10 => ?_) (fun hc10 => ?_)))
  · have hc10d := decide_eq_false hc10
    rw [if_neg hc10] at h
    refine Ws fun Z hZ => ?_
    simp only [go_sem, seval, hc10d]
    refine hZ _ (pp (Wk_ret (pp ?_)))
    cases h
    simp only [go_sem, seval]
    exact ⟨_, rfl, RokI.h, PureI.h⟩
  have hc10d := decide_eq_true hc10
  rw [if_pos hc10] at h
  refine Wk_skip (pp (Wk_regionZ fun Z hZ => ?_))
  simp only [go_sem, seval, hw6, hc10d]
  refine hZ _ (pp ?_)
  first | refine ⟨(), ?_, h⟩ | refine ⟨hi4', (), ?_, h⟩
  refine wr ?_ ?_ <;> repeat' first | rfl | constructor
def fs_ref1_SameInts (N : Nat) : FnS := ⟨[], true, fn2 (decL 1 (dec1 (decI .i64))) (decL 1 (dec1 (decI .i64))) fun q0 q1 => (ref1_SameInts N q0 q1).map fun r => .val (.bool r), false⟩
attribute [go_sem] fs_ref1_SameInts
theorem fs_ref1_SameInts_ok (N : Nat) : FSOk Try.prog 48 (fs_ref1_SameInts N) := ok2 (fun q0 q1 r h => by
  obtain ⟨r', hr, rfl⟩ := Option.map_eq_some_iff.1 h
  exact w_ref1_SameInts N q0 q1 r' hr) (fun h => decL_le (decI1_le .i64) h) (fun h => decL_le (decI1_le .i64) h)


noncomputable def G_ref24_Descends (N d f : Nat) : Option FnS := glist [(35, 48, fs_ref1_SameInts N)] d f
attribute [go_sem] G_ref24_Descends
theorem w_ref24_Descends (N : Nat) (a0 : Request) (a1 : Request) (r : Bool) (h : ref24_Descends N a0 a1 = some r) : Con Try.prog 24 [] true [.agg (Request.row a0), .agg (Request.row a1)] (.val (.bool r)) := by
  refine fun_ok4 (G := (G_ref24_Descends N)) Try.func24 rfl (by decide) (by kernel_rfl) (gc 35 (fs_ref1_SameInts_ok N) gn) [] mix (Nat.le_of_ble_eq_true rfl) ?_
  simp only [Try.f24]
  unfold ref24_Descends at h
  refine Ws fun Z hZ => ?_
  simp only [go_sem, seval]
  refine hZ _ (pp (Wk_seq (Wk_regionD fun Z hZ => ?_)))
  simp only [go_sem, seval]
  refine sw (RX_guard_bool rfl) (fun hc1 => ?_) (fun hc1 => ?_)
  · rw [if_neg (ne_true_of_eq_false hc1)] at h
    simp only [go_sem, seval, hc1]
    refine hZ _ (by kernel_rfl) (pp (Wk_ret (pp ?_)))
    cases h
    simp only [go_sem, seval]
    exact ⟨_, rfl, RokI.h, PureI.h⟩
  rw [if_pos hc1] at h
  simp only [go_sem, seval, hc1]
  refine sw (RX_guard_dec rfl) (fun hc2 => ?_) (fun hc2 => ?_)
  · have hc2d := decide_eq_false hc2
    rw [if_neg hc2] at h
    simp only [go_sem, seval, hc2d]
    refine hZ _ (by kernel_rfl) (pp (Wk_ret (pp ?_)))
    cases h
    simp only [go_sem, seval]
    exact ⟨_, rfl, RokI.h, PureI.h⟩
  have hc2d := decide_eq_true hc2
  rw [if_pos hc2] at h
  simp only [go_sem, seval, hc2d]
  repeat with_reducible refine and_bar (by kernel_rfl) ?_
  refine sw (RX_guard_dec rfl) (fun hc3 => ?_) (fun hc3 => ?_)
  · have hc3d := decide_eq_false hc3
    rw [if_neg hc3] at h
    simp only [go_sem, seval, hc3d]
    refine hZ _ (by kernel_rfl) (pp (Wk_ret (pp ?_)))
    cases h
    simp only [go_sem, seval]
    exact ⟨_, rfl, RokI.h, PureI.h⟩
  have hc3d := decide_eq_true hc3
  rw [if_pos hc3] at h
  obtain ⟨hs4, h⟩ := slx_some h
  try simp only [Int.toNat_natCast, Int.toNat_zero, Nat.sub_zero, List.drop_zero] at hs4 h
  obtain ⟨r1, hr5, h⟩ := Option.bind_eq_some_iff.1 h
  simp only [go_sem, seval, hc3d, hs4, Nat.sub_zero, hr5]
  repeat with_reducible refine and_bar (by kernel_rfl) ?_
  refine hZ _ (by kernel_rfl) (pp (Wk_ret (pp ?_)))
  cases h
  simp only [go_sem, seval]
  exact ⟨_, rfl, RokI.h, PureI.h⟩
def fs_ref24_Descends (N : Nat) : FnS := ⟨[], true, fn2 Request.decA Request.decA fun q0 q1 => (ref24_Descends N q0 q1).map fun r => .val (.bool r), false⟩
attribute [go_sem] fs_ref24_Descends
theorem fs_ref24_Descends_ok (N : Nat) : FSOk Try.prog 24 (fs_ref24_Descends N) := ok2 (fun q0 q1 r h => by
  obtain ⟨r', hr, rfl⟩ := Option.map_eq_some_iff.1 h
  exact w_ref24_Descends N q0 q1 r' hr) (Request.decA_le) (Request.decA_le)


noncomputable def G_ref24_SameID (N d f : Nat) : Option FnS := glist [(23, 48, fs_ref1_SameInts N)] d f
attribute [go_sem] G_ref24_SameID
theorem w_ref24_SameID (N : Nat) (a0 : Request) (a1 : ByteArray) (a2 : Int) (a3 : (List Int)) (r : Bool) (h : ref24_SameID N a0 a1 a2 a3 = some r) : Con Try.prog 22 [] true [.agg (Request.row a0), .val (.string a1), .val (.int .i64 a2), .sl false none 1 none (a3.map (rowI .i64))] (.val (.bool r)) := by
  refine fun_ok4 (G := (G_ref24_SameID N)) Try.func22 rfl (by decide) (by kernel_rfl) (gc 23 (fs_ref1_SameInts_ok N) gn) [] mix (Nat.le_of_ble_eq_true rfl) ?_
  simp only [Try.f22]
  unfold ref24_SameID at h
  refine Ws fun Z hZ => ?_
  simp only [go_sem, seval]
  refine hZ _ (pp (Ws fun Z hZ => ?_))
  simp only [go_sem, seval]
  refine sw (RX_guard_bool rfl) (fun hc1 => ?_) (fun hc1 => ?_)
  · rw [if_neg (ne_true_of_eq_false hc1)] at h
    simp only [go_sem, seval, hc1]
    refine hZ _ (pp (Wk_ret (pp ?_)))
    cases h
    simp only [go_sem, seval]
    exact ⟨_, rfl, RokI.h, PureI.h⟩
  rw [if_pos hc1] at h
  simp only [go_sem, seval, hc1]
  refine RX_guard_dec rfl (fun hc2 => ?_) (fun hc2 => ?_)
  · have hc2d := decide_eq_true hc2
    rw [if_pos hc2] at h
    obtain ⟨r1, hr3, h⟩ := Option.bind_eq_some_iff.1 h
    simp only [go_sem, seval, hc2d, hr3]
    refine hZ _ (pp (Wk_ret (pp ?_)))
    cases h
    simp only [go_sem, seval]
    exact ⟨_, rfl, RokI.h, PureI.h⟩
  have hc2d := decide_eq_false hc2
  rw [if_neg hc2] at h
  simp only [go_sem, seval, hc2d]
  refine hZ _ (pp (Wk_ret (pp ?_)))
  cases h
  simp only [go_sem, seval]
  exact ⟨_, rfl, RokI.h, PureI.h⟩
def fs_ref24_SameID (N : Nat) : FnS := ⟨[], true, fn4 Request.decA decS (decI .i64) (decL 1 (dec1 (decI .i64))) fun q0 q1 q2 q3 => (ref24_SameID N q0 q1 q2 q3).map fun r => .val (.bool r), false⟩
attribute [go_sem] fs_ref24_SameID
theorem fs_ref24_SameID_ok (N : Nat) : FSOk Try.prog 22 (fs_ref24_SameID N) := ok4 (fun q0 q1 q2 q3 r h => by
  obtain ⟨r', hr, rfl⟩ := Option.map_eq_some_iff.1 h
  exact w_ref24_SameID N q0 q1 q2 q3 r' hr) (Request.decA_le) (decS_le) (decI_le) (fun h => decL_le (decI1_le .i64) h)


theorem w_ref24_SameRefs (N : Nat) (a0 : (List Ref)) (a1 : (List Ref)) (r : Bool) (h : ref24_SameRefs N a0 a1 = some r) : Con Try.prog 70 [] true [.sl false none 2 none (a0.map Ref.row), .sl false none 2 none (a1.map Ref.row)] (.val (.bool r)) := by
  refine fun_ok4 (G := (glist [])) Try.func70 rfl (by decide) (by kernel_rfl) gn [] mix (Nat.le_of_ble_eq_true rfl) ?_
  simp only [Try.f70]
  unfold ref24_SameRefs at h
  refine Ws fun Z hZ => ?_
  simp only [go_sem, seval]
  refine hZ _ (pp (Wk_seq (Ws fun Z hZ => ?_)))
  simp only [go_sem, seval]
  refine hZ _ (pp (Wk_cond_ndec rfl (fun hc1 => ?_) (fun hc1 => ?_)))
  · have hc1d := decide_eq_false hc1
    rw [if_neg hc1] at h
    refine Ws fun Z hZ => ?_
    simp only [go_sem, seval, hc1d]
    refine hZ _ (pp (Wk_ret (pp ?_)))
    cases h
    simp only [go_sem, seval]
    exact ⟨_, rfl, RokI.h, PureI.h⟩
  have hc1d := decide_eq_true hc1
  rw [if_pos hc1] at h
  refine Wk_skip (pp (Wk_seq (Ws fun Z hZ => ?_)))
  simp only [go_sem, seval, hc1d]
  refine hZ _ (pp (Wk_block (Wk_real fun hreal3 => ?_)))
  have hl2 := hreal3.lenT 0 (by decide) (by simp only [go_sem, seval]; rfl)
  rw [List.length_map] at hl2
  refine Wk_range (fun (v3 : Nat) (b : Unit) => ⟨tab 26 (updT (updT (updT deadT 0 (.sl false none 2 none (a0.map Ref.row))) 1 (.sl false none 2 none (a1.map Ref.row))) 5 (.val (.int .i64 ((v3 : Nat) : Int)))), RZ⟩) () h ?_ ?_
  · refine wr ?_ ?_ <;> repeat' first | rfl | constructor
  rintro v3 ⟨⟩ hi4 h -
  rcases (drop_cases a0 v3 hi4).symm with ⟨hi4', _, hd7⟩ | ⟨x6, hi4', hx5, hd7⟩
  · rw [hd7] at h
    simp only [ref24_SameRefs_L1] at h
    refine Wk_seq (Ws fun Z hZ => ?_)
    simp only [go_sem, seval, hi4']
    refine hZ _ (pp ?_)
    try simp only [Int.ofNat_lt, hi4', if_true, if_false] at h
    refine Wk_cond_f rfl (Wk_exit (pp (Ws fun Z hZ => ?_)))
    simp only [go_sem, seval]
    refine hZ _ (pp (Wk_ret (pp ?_)))
    cases h
    simp only [go_sem, seval]
    exact ⟨_, rfl, RokI.h, PureI.h⟩
  rw [hd7] at h
  simp only [ref24_SameRefs_L1] at h
  have hw6 := wrap_succ hi4' hl2
  refine Wk_seq (Ws fun Z hZ => ?_)
  simp only [go_sem, seval, hi4']
  refine hZ _ (pp ?_)
  try simp only [Int.ofNat_lt, hi4', if_true, if_false] at h
  refine Wk_cond_t rfl (Wk_skip (pp (Wk_seq (Wk_block (Wk_seq ?_)))))
  try rw [gx_nat hx5] at h
  obtain ⟨x1, hb8, hx9, h⟩ := gx_some h
  try simp only [Int.toNat_natCast] at hx9
  try simp only [Int.ofNat_lt, Int.natCast_nonneg, true_and] at hb8
  refine Wk_regionD fun Z hZ => ?_
  simp only [go_sem, seval, hx5, hi4', hb8, hx9]
  refine hZ _ (by kernel_rfl) (pp (Wk_cond_nbool rfl (fun hc10 => ?_) (fun hc10 => ?_)))
  · rw [if_neg (ne_true_of_eq_false hc10)] at h
    refine Ws fun Z hZ => ?_
    simp only [go_sem, seval, hc10]
    refine hZ _ (pp (Wk_ret (pp ?_)))
    cases h
    simp only [go_sem, seval]
    exact ⟨_, rfl, RokI.h, PureI.h⟩
  rw [if_pos hc10] at h
  refine Wk_skip (pp (Wk_regionZ fun Z hZ => ?_))
  simp only [go_sem, seval, hw6, hc10]
  refine hZ _ (pp ?_)
  first | refine ⟨(), ?_, h⟩ | refine ⟨hi4', (), ?_, h⟩
  refine wr ?_ ?_ <;> repeat' first | rfl | constructor
def fs_ref24_SameRefs (N : Nat) : FnS := ⟨[], true, fn2 (decL 2 Ref.dec) (decL 2 Ref.dec) fun q0 q1 => (ref24_SameRefs N q0 q1).map fun r => .val (.bool r), false⟩
attribute [go_sem] fs_ref24_SameRefs
theorem fs_ref24_SameRefs_ok (N : Nat) : FSOk Try.prog 70 (fs_ref24_SameRefs N) := ok2 (fun q0 q1 r h => by
  obtain ⟨r', hr, rfl⟩ := Option.map_eq_some_iff.1 h
  exact w_ref24_SameRefs N q0 q1 r' hr) (fun h => decL_le Ref.dec_le h) (fun h => decL_le Ref.dec_le h)


theorem w_ref1_SameStrings (N : Nat) (a0 : (List ByteArray)) (a1 : (List ByteArray)) (r : Bool) (h : ref1_SameStrings N a0 a1 = some r) : Con Try.prog 92 [] true [.sl false none 1 none (a0.map rowS), .sl false none 1 none (a1.map rowS)] (.val (.bool r)) := by
  refine fun_ok4 (G := (glist [])) Try.func92 rfl (by decide) (by kernel_rfl) gn [] mix (Nat.le_of_ble_eq_true rfl) ?_
  simp only [Try.f92]
  unfold ref1_SameStrings at h
  refine Ws fun Z hZ => ?_
  simp only [go_sem, seval]
  refine hZ _ (pp (Wk_seq (Ws fun Z hZ => ?_)))
  simp only [go_sem, seval]
  refine hZ _ (pp (Wk_cond_ndec rfl (fun hc1 => ?_) (fun hc1 => ?_)))
  · have hc1d := decide_eq_false hc1
    rw [if_neg hc1] at h
    refine Ws fun Z hZ => ?_
    simp only [go_sem, seval, hc1d]
    refine hZ _ (pp (Wk_ret (pp ?_)))
    cases h
    simp only [go_sem, seval]
    exact ⟨_, rfl, RokI.h, PureI.h⟩
  have hc1d := decide_eq_true hc1
  rw [if_pos hc1] at h
  refine Wk_skip (pp (Wk_seq (Ws fun Z hZ => ?_)))
  simp only [go_sem, seval, hc1d]
  refine hZ _ (pp (Wk_block (Wk_real fun hreal3 => ?_)))
  have hl2 := hreal3.lenT 0 (by decide) (by simp only [go_sem, seval]; rfl)
  rw [List.length_map] at hl2
  refine Wk_range (fun (v3 : Nat) (b : Unit) => ⟨tab 26 (updT (updT (updT deadT 0 (.sl false none 1 none (a0.map rowS))) 1 (.sl false none 1 none (a1.map rowS))) 5 (.val (.int .i64 ((v3 : Nat) : Int)))), RZ⟩) () h ?_ ?_
  · refine wr ?_ ?_ <;> repeat' first | rfl | constructor
  rintro v3 ⟨⟩ hi4 h -
  rcases (drop_cases a0 v3 hi4).symm with ⟨hi4', _, hd7⟩ | ⟨x6, hi4', hx5, hd7⟩
  · rw [hd7] at h
    simp only [ref1_SameStrings_L1] at h
    refine Wk_seq (Ws fun Z hZ => ?_)
    simp only [go_sem, seval, hi4']
    refine hZ _ (pp ?_)
    try simp only [Int.ofNat_lt, hi4', if_true, if_false] at h
    refine Wk_cond_f rfl (Wk_exit (pp (Ws fun Z hZ => ?_)))
    simp only [go_sem, seval]
    refine hZ _ (pp (Wk_ret (pp ?_)))
    cases h
    simp only [go_sem, seval]
    exact ⟨_, rfl, RokI.h, PureI.h⟩
  rw [hd7] at h
  simp only [ref1_SameStrings_L1] at h
  have hw6 := wrap_succ hi4' hl2
  refine Wk_seq (Ws fun Z hZ => ?_)
  simp only [go_sem, seval, hi4']
  refine hZ _ (pp ?_)
  try simp only [Int.ofNat_lt, hi4', if_true, if_false] at h
  refine Wk_cond_t rfl (Wk_skip (pp (Wk_seq (Wk_block (Wk_seq ?_)))))
  try rw [gx_nat hx5] at h
  obtain ⟨x1, hb8, hx9, h⟩ := gx_some h
  try simp only [Int.toNat_natCast] at hx9
  try simp only [Int.ofNat_lt, Int.natCast_nonneg, true_and] at hb8
  refine Wk_regionD fun Z hZ => ?_
  simp only [go_sem, seval, hx5, hi4', hb8, hx9]
  refine hZ _ (by kernel_rfl) (pp (Wk_cond_nbool rfl (fun hc10 => ?_) (fun hc10 => ?_)))
  · rw [if_neg (ne_true_of_eq_false hc10)] at h
    refine Ws fun Z hZ => ?_
    simp only [go_sem, seval, hc10]
    refine hZ _ (pp (Wk_ret (pp ?_)))
    cases h
    simp only [go_sem, seval]
    exact ⟨_, rfl, RokI.h, PureI.h⟩
  rw [if_pos hc10] at h
  refine Wk_skip (pp (Wk_regionZ fun Z hZ => ?_))
  simp only [go_sem, seval, hw6, hc10]
  refine hZ _ (pp ?_)
  first | refine ⟨(), ?_, h⟩ | refine ⟨hi4', (), ?_, h⟩
  refine wr ?_ ?_ <;> repeat' first | rfl | constructor
def fs_ref1_SameStrings (N : Nat) : FnS := ⟨[], true, fn2 (decL 1 (dec1 decS)) (decL 1 (dec1 decS)) fun q0 q1 => (ref1_SameStrings N q0 q1).map fun r => .val (.bool r), false⟩
attribute [go_sem] fs_ref1_SameStrings
theorem fs_ref1_SameStrings_ok (N : Nat) : FSOk Try.prog 92 (fs_ref1_SameStrings N) := ok2 (fun q0 q1 r h => by
  obtain ⟨r', hr, rfl⟩ := Option.map_eq_some_iff.1 h
  exact w_ref1_SameStrings N q0 q1 r' hr) (fun h => decL_le decS1_le h) (fun h => decL_le decS1_le h)


noncomputable def G_ref1_SameValue (N d f : Nat) : Option FnS := glist [(29, 48, fs_ref1_SameInts N), (36, 92, fs_ref1_SameStrings N)] d f
attribute [go_sem] G_ref1_SameValue
theorem w_ref1_SameValue (N : Nat) (a0 : Value) (a1 : Value) (r : Bool) (h : ref1_SameValue N a0 a1 = some r) : Con Try.prog 71 [] true [.agg (Value.row a0), .agg (Value.row a1)] (.val (.bool r)) := by
  refine fun_ok4 (G := (G_ref1_SameValue N)) Try.func71 rfl (by decide) (by kernel_rfl) (gc 29 (fs_ref1_SameInts_ok N) (gc 36 (fs_ref1_SameStrings_ok N) gn)) [] mix (Nat.le_of_ble_eq_true rfl) ?_
  simp only [Try.f71]
  unfold ref1_SameValue at h
  refine Ws fun Z hZ => ?_
  simp only [go_sem, seval]
  refine hZ _ (pp (Ws fun Z hZ => ?_))
  simp only [go_sem, seval]
  refine sw (RX_guard_dec rfl) (fun hc1 => ?_) (fun hc1 => ?_)
  · have hc1d := decide_eq_false hc1
    rw [if_neg hc1] at h
    simp only [go_sem, seval, hc1d]
    refine hZ _ (pp (Wk_ret (pp ?_)))
    cases h
    simp only [go_sem, seval]
    exact ⟨_, rfl, RokI.h, PureI.h⟩
  have hc1d := decide_eq_true hc1
  rw [if_pos hc1] at h
  simp only [go_sem, seval, hc1d]
  refine sw (RX_guard_dec rfl) (fun hc2 => ?_) (fun hc2 => ?_)
  · have hc2d := decide_eq_false hc2
    rw [if_neg hc2] at h
    simp only [go_sem, seval, hc2d]
    refine hZ _ (pp (Wk_ret (pp ?_)))
    cases h
    simp only [go_sem, seval]
    exact ⟨_, rfl, RokI.h, PureI.h⟩
  have hc2d := decide_eq_true hc2
  rw [if_pos hc2] at h
  simp only [go_sem, seval, hc2d]
  refine sw (RX_guard_bool rfl) (fun hc3 => ?_) (fun hc3 => ?_)
  · rw [if_neg (ne_true_of_eq_false hc3)] at h
    simp only [go_sem, seval, hc3]
    refine hZ _ (pp (Wk_ret (pp ?_)))
    cases h
    simp only [go_sem, seval]
    exact ⟨_, rfl, RokI.h, PureI.h⟩
  rw [if_pos hc3] at h
  obtain ⟨r1, hr4, h⟩ := Option.bind_eq_some_iff.1 h
  simp only [go_sem, seval, hc3, hr4]
  refine RX_guard_bool rfl (fun hc5 => ?_) (fun hc5 => ?_)
  · rw [if_pos hc5] at h
    obtain ⟨r2, hr6, h⟩ := Option.bind_eq_some_iff.1 h
    simp only [go_sem, seval, hc5, hr6]
    refine hZ _ (pp (Wk_ret (pp ?_)))
    cases h
    simp only [go_sem, seval]
    exact ⟨_, rfl, RokI.h, PureI.h⟩
  rw [if_neg (ne_true_of_eq_false hc5)] at h
  simp only [go_sem, seval, hc5]
  refine hZ _ (pp (Wk_ret (pp ?_)))
  cases h
  simp only [go_sem, seval]
  exact ⟨_, rfl, RokI.h, PureI.h⟩
def fs_ref1_SameValue (N : Nat) : FnS := ⟨[], true, fn2 Value.decA Value.decA fun q0 q1 => (ref1_SameValue N q0 q1).map fun r => .val (.bool r), false⟩
attribute [go_sem] fs_ref1_SameValue
theorem fs_ref1_SameValue_ok (N : Nat) : FSOk Try.prog 71 (fs_ref1_SameValue N) := ok2 (fun q0 q1 r h => by
  obtain ⟨r', hr, rfl⟩ := Option.map_eq_some_iff.1 h
  exact w_ref1_SameValue N q0 q1 r' hr) (Value.decA_le) (Value.decA_le)


noncomputable def G_ref24_SameRequest (N d f : Nat) : Option FnS := glist [(13, 22, fs_ref24_SameID N), (43, 70, fs_ref24_SameRefs N), (70, 71, fs_ref1_SameValue N)] d f
attribute [go_sem] G_ref24_SameRequest
theorem w_ref24_SameRequest (N : Nat) (a0 : Request) (a1 : Request) (r : Bool) (h : ref24_SameRequest N a0 a1 = some r) : Con Try.prog 25 [] true [.agg (Request.row a0), .agg (Request.row a1)] (.val (.bool r)) := by
  refine fun_ok4 (G := (G_ref24_SameRequest N)) Try.func25 rfl (by decide) (by kernel_rfl) (gc 13 (fs_ref24_SameID_ok N) (gc 43 (fs_ref24_SameRefs_ok N) (gc 70 (fs_ref1_SameValue_ok N) gn))) [] mix (Nat.le_of_ble_eq_true rfl) ?_
  simp only [Try.f25]
  unfold ref24_SameRequest at h
  refine Ws fun Z hZ => ?_
  simp only [go_sem, seval]
  refine hZ _ (pp (Wk_seq ?_))
  apply Wk_join1 (fun (c7 : Bool) => ⟨tab 72 (updT (updT (updT deadT 2 (.pref 2 [] 0 0)) 3 (.pref 3 [] 0 0)) 52 (.val (.bool c7))), (upd (upd RZ 2 (.sl true none 9 (some 1) [Request.row a0])) 3 (.sl true none 9 (some 1) [Request.row a1]))⟩)
  · intro hJ1
    obtain ⟨r8, hr2, h⟩ := Option.bind_eq_some_iff.1 h
    refine Wk_regionZ fun Z hZ => ?_
    simp only [go_sem, seval, hr2]
    refine RX_guard_nbool rfl (fun hc3 => ?_) (fun hc3 => ?_)
    · rw [if_neg (ne_true_of_eq_false hc3)] at h
      simp only [go_sem, seval, hc3]
      refine hZ _ (pp (hJ1 _ true ?_ h))
      refine wr ?_ ?_ <;> repeat' first | rfl | constructor
    rw [if_pos hc3] at h
    simp only [go_sem, seval, hc3]
    refine RX_guard_nbool rfl (fun hc4 => ?_) (fun hc4 => ?_)
    · rw [if_neg (ne_true_of_eq_false hc4)] at h
      simp only [go_sem, seval, hc4]
      refine hZ _ (pp (hJ1 _ true ?_ h))
      refine wr ?_ ?_ <;> repeat' first | rfl | constructor
    rw [if_pos hc4] at h
    simp only [go_sem, seval, hc4]
    refine RX_guard_nbool rfl (fun hc5 => ?_) (fun hc5 => ?_)
    · rw [if_neg (ne_true_of_eq_false hc5)] at h
      simp only [go_sem, seval, hc5]
      refine hZ _ (pp (hJ1 _ true ?_ h))
      refine wr ?_ ?_ <;> repeat' first | rfl | constructor
    rw [if_pos hc5] at h
    simp only [go_sem, seval, hc5]
    refine RX_guard_ndec rfl (fun hc6 => ?_) (fun hc6 => ?_)
    · have hc6d := decide_eq_false hc6
      rw [if_neg hc6] at h
      simp only [go_sem, seval, hc6d]
      refine hZ _ (pp (hJ1 _ true ?_ h))
      refine wr ?_ ?_ <;> repeat' first | rfl | constructor
    have hc6d := decide_eq_true hc6
    rw [if_pos hc6] at h
    obtain ⟨r9, hr7, h⟩ := Option.bind_eq_some_iff.1 h
    simp only [go_sem, seval, hc6d, hr7]
    refine RX_guard_nbool rfl (fun hc8 => ?_) (fun hc8 => ?_)
    · rw [if_neg (ne_true_of_eq_false hc8)] at h
      simp only [go_sem, seval, hc8]
      refine hZ _ (pp (hJ1 _ true ?_ h))
      refine wr ?_ ?_ <;> repeat' first | rfl | constructor
    rw [if_pos hc8] at h
    simp only [go_sem, seval, hc8]
    refine hZ _ (pp (hJ1 _ (!decide (a0.Txn = a1.Txn)) ?_ h))
    refine wr ?_ ?_ <;> repeat' first | rfl | constructor
  intro c7 h
  unfold ref24_SameRequest_J1 at h
  refine Wk_cond_bool rfl (fun hc9 => ?_) (fun hc9 => ?_)
  · rw [if_pos hc9] at h
    refine Ws fun Z hZ => ?_
    simp only [go_sem, seval, hc9]
    refine hZ _ (pp (Wk_ret (pp ?_)))
    cases h
    simp only [go_sem, seval]
    exact ⟨_, rfl, RokI.h, PureI.h⟩
  rw [if_neg (ne_true_of_eq_false hc9)] at h
  refine Wk_skip (pp ?_)
  unfold ref24_SameRequest_J2 at h
  refine Wk_seq (Ws fun Z hZ => ?_)
  simp only [go_sem, seval, hc9]
  refine hZ _ (pp (Wk_block (Wk_real fun hreal11 => ?_)))
  have hl10 := hreal11.cell 2 6 (by simp only [go_sem, seval]; rfl) rfl
  rw [List.length_map] at hl10
  refine Wk_range (fun (v7 : Nat) (b : Unit) => ⟨tab 72 (updT (updT (updT deadT 2 (.pref 2 [] 0 0)) 3 (.pref 3 [] 0 0)) 5 (.val (.int .i64 ((v7 : Nat) : Int)))), (upd (upd RZ 2 (.sl true none 9 (some 1) [Request.row a0])) 3 (.sl true none 9 (some 1) [Request.row a1]))⟩) () h ?_ ?_
  · refine wr ?_ ?_ <;> repeat' first | rfl | constructor
  rintro v7 ⟨⟩ hi12 h -
  rcases (drop_cases a0.Args v7 hi12).symm with ⟨hi12', _, hd15⟩ | ⟨x10, hi12', hx13, hd15⟩
  · rw [hd15] at h
    simp only [ref24_SameRequest_L1] at h
    refine Wk_seq (Ws fun Z hZ => ?_)
    simp only [go_sem, seval, hi12']
    refine hZ _ (pp ?_)
    try simp only [Int.ofNat_lt, hi12', if_true, if_false] at h
    refine Wk_cond_f rfl (Wk_exit (pp (Ws fun Z hZ => ?_)))
    simp only [go_sem, seval]
    refine hZ _ (pp (Wk_ret (pp ?_)))
    cases h
    simp only [go_sem, seval]
    exact ⟨_, rfl, RokI.h, PureI.h⟩
  rw [hd15] at h
  simp only [ref24_SameRequest_L1] at h
  have hw14 := wrap_succ hi12' hl10
  refine Wk_seq (Ws fun Z hZ => ?_)
  simp only [go_sem, seval, hi12']
  refine hZ _ (pp ?_)
  try simp only [Int.ofNat_lt, hi12', if_true, if_false] at h
  refine Wk_cond_t rfl (Wk_skip (pp (Wk_seq (Wk_block (Wk_seq ?_)))))
  try rw [gx_nat hx13] at h
  obtain ⟨x10, hb16, hx17, h⟩ := gx_some h
  try simp only [Int.toNat_natCast] at hx17
  try simp only [Int.ofNat_lt, Int.natCast_nonneg, true_and] at hb16
  obtain ⟨r11, hr18, h⟩ := Option.bind_eq_some_iff.1 h
  refine Wk_regionD fun Z hZ => ?_
  simp only [go_sem, seval, hx13, hi12', hb16, hx17, hr18]
  repeat with_reducible refine and_bar (by kernel_rfl) ?_
  refine hZ _ (by kernel_rfl) (pp (Wk_cond_nbool rfl (fun hc19 => ?_) (fun hc19 => ?_)))
  · rw [if_neg (ne_true_of_eq_false hc19)] at h
    refine Ws fun Z hZ => ?_
    simp only [go_sem, seval, hc19]
    refine hZ _ (pp (Wk_ret (pp ?_)))
    cases h
    simp only [go_sem, seval]
    exact ⟨_, rfl, RokI.h, PureI.h⟩
  rw [if_pos hc19] at h
  refine Wk_skip (pp (Wk_regionZ fun Z hZ => ?_))
  simp only [go_sem, seval, hw14, hc19]
  refine hZ _ (pp ?_)
  first | refine ⟨(), ?_, h⟩ | refine ⟨hi12', (), ?_, h⟩
  refine wr ?_ ?_ <;> repeat' first | rfl | constructor
def fs_ref24_SameRequest (N : Nat) : FnS := ⟨[], true, fn2 Request.decA Request.decA fun q0 q1 => (ref24_SameRequest N q0 q1).map fun r => .val (.bool r), false⟩
attribute [go_sem] fs_ref24_SameRequest
theorem fs_ref24_SameRequest_ok (N : Nat) : FSOk Try.prog 25 (fs_ref24_SameRequest N) := ok2 (fun q0 q1 r h => by
  obtain ⟨r', hr, rfl⟩ := Option.map_eq_some_iff.1 h
  exact w_ref24_SameRequest N q0 q1 r' hr) (Request.decA_le) (Request.decA_le)


noncomputable def G_ref24_running (N d f : Nat) : Option FnS := glist [(6, 25, fs_ref24_SameRequest N)] d f
attribute [go_sem] G_ref24_running
theorem w_ref24_running (N : Nat) (a0 : Turn) (r : Bool) (h : ref24_running N a0 = some r) : Con Try.prog 53 [] true [.agg (Turn.row a0)] (.val (.bool r)) := by
  refine fun_ok4 (G := (G_ref24_running N)) Try.func53 rfl (by decide) (by kernel_rfl) (gc 6 (fs_ref24_SameRequest_ok N) gn) [] mix (Nat.le_of_ble_eq_true rfl) ?_
  simp only [Try.f53]
  unfold ref24_running at h
  refine Ws fun Z hZ => ?_
  simp only [go_sem, seval]
  refine hZ _ (pp (Wk_seq ?_))
  obtain ⟨r1, hr1, h⟩ := Option.bind_eq_some_iff.1 h
  refine Wk_regionZ fun Z hZ => ?_
  simp only [go_sem, seval, hr1]
  refine hZ _ (pp (Wk_ret (pp ?_)))
  cases h
  simp only [go_sem, seval]
  exact ⟨_, rfl, RokI.h, PureI.h⟩
def fs_ref24_running (N : Nat) : FnS := ⟨[], true, fn1 Turn.decA fun q0 => (ref24_running N q0).map fun r => .val (.bool r), false⟩
attribute [go_sem] fs_ref24_running
theorem fs_ref24_running_ok (N : Nat) : FSOk Try.prog 53 (fs_ref24_running N) := ok1 (fun q0 r h => by
  obtain ⟨r', hr, rfl⟩ := Option.map_eq_some_iff.1 h
  exact w_ref24_running N q0 r' hr) (Turn.decA_le)


noncomputable def G_ref24_SameReply (N d f : Nat) : Option FnS := glist [(22, 48, fs_ref1_SameInts N), (36, 71, fs_ref1_SameValue N)] d f
attribute [go_sem] G_ref24_SameReply
theorem w_ref24_SameReply (N : Nat) (a0 : Reply) (a1 : Reply) (r : Bool) (h : ref24_SameReply N a0 a1 = some r) : Con Try.prog 45 [] true [.agg (Reply.row a0), .agg (Reply.row a1)] (.val (.bool r)) := by
  refine fun_ok4 (G := (G_ref24_SameReply N)) Try.func45 rfl (by decide) (by kernel_rfl) (gc 22 (fs_ref1_SameInts_ok N) (gc 36 (fs_ref1_SameValue_ok N) gn)) [] mix (Nat.le_of_ble_eq_true rfl) ?_
  simp only [Try.f45]
  unfold ref24_SameReply at h
  refine Ws fun Z hZ => ?_
  simp only [go_sem, seval]
  refine hZ _ (pp (Ws fun Z hZ => ?_))
  simp only [go_sem, seval]
  refine sw (RX_guard_bool rfl) (fun hc1 => ?_) (fun hc1 => ?_)
  · rw [if_neg (ne_true_of_eq_false hc1)] at h
    simp only [go_sem, seval, hc1]
    refine hZ _ (pp (Wk_ret (pp ?_)))
    cases h
    simp only [go_sem, seval]
    exact ⟨_, rfl, RokI.h, PureI.h⟩
  rw [if_pos hc1] at h
  simp only [go_sem, seval, hc1]
  refine sw (RX_guard_dec rfl) (fun hc2 => ?_) (fun hc2 => ?_)
  · have hc2d := decide_eq_false hc2
    rw [if_neg hc2] at h
    simp only [go_sem, seval, hc2d]
    refine hZ _ (pp (Wk_ret (pp ?_)))
    cases h
    simp only [go_sem, seval]
    exact ⟨_, rfl, RokI.h, PureI.h⟩
  have hc2d := decide_eq_true hc2
  rw [if_pos hc2] at h
  obtain ⟨r1, hr3, h⟩ := Option.bind_eq_some_iff.1 h
  simp only [go_sem, seval, hc2d, hr3]
  refine sw (RX_guard_bool rfl) (fun hc4 => ?_) (fun hc4 => ?_)
  · rw [if_neg (ne_true_of_eq_false hc4)] at h
    simp only [go_sem, seval, hc4]
    refine hZ _ (pp (Wk_ret (pp ?_)))
    cases h
    simp only [go_sem, seval]
    exact ⟨_, rfl, RokI.h, PureI.h⟩
  rw [if_pos hc4] at h
  simp only [go_sem, seval, hc4]
  refine RX_guard_dec rfl (fun hc5 => ?_) (fun hc5 => ?_)
  · have hc5d := decide_eq_true hc5
    rw [if_pos hc5] at h
    obtain ⟨r2, hr6, h⟩ := Option.bind_eq_some_iff.1 h
    simp only [go_sem, seval, hc5d, hr6]
    refine hZ _ (pp (Wk_ret (pp ?_)))
    cases h
    simp only [go_sem, seval]
    exact ⟨_, rfl, RokI.h, PureI.h⟩
  have hc5d := decide_eq_false hc5
  rw [if_neg hc5] at h
  simp only [go_sem, seval, hc5d]
  refine hZ _ (pp (Wk_ret (pp ?_)))
  cases h
  simp only [go_sem, seval]
  exact ⟨_, rfl, RokI.h, PureI.h⟩
def fs_ref24_SameReply (N : Nat) : FnS := ⟨[], true, fn2 Reply.decA Reply.decA fun q0 q1 => (ref24_SameReply N q0 q1).map fun r => .val (.bool r), false⟩
attribute [go_sem] fs_ref24_SameReply
theorem fs_ref24_SameReply_ok (N : Nat) : FSOk Try.prog 45 (fs_ref24_SameReply N) := ok2 (fun q0 q1 r h => by
  obtain ⟨r', hr, rfl⟩ := Option.map_eq_some_iff.1 h
  exact w_ref24_SameReply N q0 q1 r' hr) (Reply.decA_le) (Reply.decA_le)


noncomputable def G_ref24_ValidReply (N d f : Nat) : Option FnS := glist [(5, 64, fs_ref24_ValidName N), (19, 65, fs_ref24_validPath N), (34, 68, fs_ref1_ValidValue N)] d f
attribute [go_sem] G_ref24_ValidReply
theorem w_ref24_ValidReply (N : Nat) (a0 : Reply) (r : Bool) (h : ref24_ValidReply N a0 = some r) : Con Try.prog 20 [] true [.agg (Reply.row a0)] (.val (.bool r)) := by
  refine fun_ok4 (G := (G_ref24_ValidReply N)) Try.func20 rfl (by decide) (by kernel_rfl) (gc 5 (fs_ref24_ValidName_ok N) (gc 19 (fs_ref24_validPath_ok N) (gc 34 (fs_ref1_ValidValue_ok N) gn))) [] mix (Nat.le_of_ble_eq_true rfl) ?_
  simp only [Try.f20]
  unfold ref24_ValidReply at h
  refine Ws fun Z hZ => ?_
  simp only [go_sem, seval]
  refine hZ _ (pp (Wk_seq ?_))
  obtain ⟨r1, hr1, h⟩ := Option.bind_eq_some_iff.1 h
  refine Wk_regionZ fun Z hZ => ?_
  simp only [go_sem, seval, hr1]
  refine sw (RX_guard_bool rfl) (fun hc2 => ?_) (fun hc2 => ?_)
  · rw [if_neg (ne_true_of_eq_false hc2)] at h
    simp only [go_sem, seval, hc2]
    refine hZ _ (pp (Wk_ret (pp ?_)))
    cases h
    simp only [go_sem, seval]
    exact ⟨_, rfl, RokI.h, PureI.h⟩
  rw [if_pos hc2] at h
  simp only [go_sem, seval, hc2]
  refine sw (RX_guard_dec rfl) (fun hc3 => ?_) (fun hc3 => ?_)
  · have hc3d := decide_eq_false hc3
    rw [if_neg hc3] at h
    simp only [go_sem, seval, hc3d]
    refine hZ _ (pp (Wk_ret (pp ?_)))
    cases h
    simp only [go_sem, seval]
    exact ⟨_, rfl, RokI.h, PureI.h⟩
  have hc3d := decide_eq_true hc3
  rw [if_pos hc3] at h
  simp only [go_sem, seval, hc3d]
  refine sw (RX_guard_dec rfl) (fun hc4 => ?_) (fun hc4 => ?_)
  · have hc4d := decide_eq_false hc4
    rw [if_neg hc4] at h
    simp only [go_sem, seval, hc4d]
    refine hZ _ (pp (Wk_ret (pp ?_)))
    cases h
    simp only [go_sem, seval]
    exact ⟨_, rfl, RokI.h, PureI.h⟩
  have hc4d := decide_eq_true hc4
  rw [if_pos hc4] at h
  obtain ⟨r2, hr5, h⟩ := Option.bind_eq_some_iff.1 h
  simp only [go_sem, seval, hc4d, hr5]
  refine sw (RX_guard_bool rfl) (fun hc6 => ?_) (fun hc6 => ?_)
  · rw [if_neg (ne_true_of_eq_false hc6)] at h
    simp only [go_sem, seval, hc6]
    refine hZ _ (pp (Wk_ret (pp ?_)))
    cases h
    simp only [go_sem, seval]
    exact ⟨_, rfl, RokI.h, PureI.h⟩
  rw [if_pos hc6] at h
  simp only [go_sem, seval, hc6]
  refine sw (RX_guard_dec rfl) (fun hc7 => ?_) (fun hc7 => ?_)
  · have hc7d := decide_eq_false hc7
    rw [if_neg hc7] at h
    simp only [go_sem, seval, hc7d]
    refine hZ _ (pp (Wk_ret (pp ?_)))
    cases h
    simp only [go_sem, seval]
    exact ⟨_, rfl, RokI.h, PureI.h⟩
  have hc7d := decide_eq_true hc7
  rw [if_pos hc7] at h
  simp only [go_sem, seval, hc7d]
  refine sw (RX_guard_dec rfl) (fun hc8 => ?_) (fun hc8 => ?_)
  · have hc8d := decide_eq_false hc8
    rw [if_neg hc8] at h
    simp only [go_sem, seval, hc8d]
    refine hZ _ (pp (Wk_ret (pp ?_)))
    cases h
    simp only [go_sem, seval]
    exact ⟨_, rfl, RokI.h, PureI.h⟩
  have hc8d := decide_eq_true hc8
  rw [if_pos hc8] at h
  obtain ⟨r3, hr9, h⟩ := Option.bind_eq_some_iff.1 h
  simp only [go_sem, seval, hc8d, hr9]
  refine sw (RX_guard_bool rfl) (fun hc10 => ?_) (fun hc10 => ?_)
  · rw [if_neg (ne_true_of_eq_false hc10)] at h
    simp only [go_sem, seval, hc10]
    refine hZ _ (pp (Wk_ret (pp ?_)))
    cases h
    simp only [go_sem, seval]
    exact ⟨_, rfl, RokI.h, PureI.h⟩
  rw [if_pos hc10] at h
  simp only [go_sem, seval, hc10]
  refine RX_guard_dec rfl (fun hc11 => ?_) (fun hc11 => ?_)
  · have hc11d := decide_eq_true hc11
    rw [if_pos hc11] at h
    simp only [go_sem, seval, hc11d]
    refine hZ _ (pp (Wk_ret (pp ?_)))
    cases h
    simp only [go_sem, seval]
    exact ⟨_, rfl, RokI.h, PureI.h⟩
  have hc11d := decide_eq_false hc11
  rw [if_neg hc11] at h
  simp only [go_sem, seval, hc11d]
  refine hZ _ (pp (Wk_ret (pp ?_)))
  cases h
  simp only [go_sem, seval]
  exact ⟨_, rfl, RokI.h, PureI.h⟩
def fs_ref24_ValidReply (N : Nat) : FnS := ⟨[], true, fn1 Reply.decA fun q0 => (ref24_ValidReply N q0).map fun r => .val (.bool r), false⟩
attribute [go_sem] fs_ref24_ValidReply
theorem fs_ref24_ValidReply_ok (N : Nat) : FSOk Try.prog 20 (fs_ref24_ValidReply N) := ok1 (fun q0 r h => by
  obtain ⟨r', hr, rfl⟩ := Option.map_eq_some_iff.1 h
  exact w_ref24_ValidReply N q0 r' hr) (Reply.decA_le)


noncomputable def G_ref24_turn (N d f : Nat) : Option FnS := glist [(15, 18, fs_ref24_ValidRequest N), (47, 24, fs_ref24_Descends N), (59, 53, fs_ref24_running N), (80, 45, fs_ref24_SameReply N), (85, 18, fs_ref24_ValidRequest N), (129, 48, fs_ref1_SameInts N), (144, 70, fs_ref24_SameRefs N), (153, 45, fs_ref24_SameReply N), (159, 20, fs_ref24_ValidReply N), (172, 22, fs_ref24_SameID N)] d f
attribute [go_sem] G_ref24_turn
theorem w_ref24_turn (N : Nat) (a0 : Actor) (a1 : Int) (r : Bool) (h : ref24_turn N a0 a1 = some r) : Con Try.prog 58 [] true [.agg (Actor.row a0), .val (.int .i64 a1)] (.val (.bool r)) := by
  refine fun_ok4 (G := (G_ref24_turn N)) Try.func58 rfl (by decide) (by kernel_rfl) (gc 15 (fs_ref24_ValidRequest_ok N) (gc 47 (fs_ref24_Descends_ok N) (gc 59 (fs_ref24_running_ok N) (gc 80 (fs_ref24_SameReply_ok N) (gc 85 (fs_ref24_ValidRequest_ok N) (gc 129 (fs_ref1_SameInts_ok N) (gc 144 (fs_ref24_SameRefs_ok N) (gc 153 (fs_ref24_SameReply_ok N) (gc 159 (fs_ref24_ValidReply_ok N) (gc 172 (fs_ref24_SameID_ok N) gn)))))))))) [] mix (Nat.le_of_ble_eq_true rfl) ?_
  simp only [Try.f58]
  unfold ref24_turn at h
  refine Ws fun Z hZ => ?_
  simp only [go_sem, seval]
  refine hZ _ (pp (Wk_seq ?_))
  obtain ⟨x1, hb1, hx2, h⟩ := gx_some h
  refine Wk_regionZ fun Z hZ => ?_
  simp only [go_sem, seval, hb1, hx2]
  refine hZ _ (pp (Wk_seq ?_))
  apply Wk_join1 (fun (c6 : Bool) => ⟨tab 174 (updT (updT (updT (updT deadT 1 (.val (.int .i64 a1))) 2 (.pref 2 [] 0 0)) 5 (.pref 5 [] 0 0)) 34 (.val (.bool c6))), (upd (upd RZ 2 (.sl true none 4 (some 1) [Actor.row a0])) 5 (.sl true none 30 (some 1) [Turn.row x1]))⟩)
  · intro hJ3
    obtain ⟨r7, hr4, h⟩ := Option.bind_eq_some_iff.1 h
    refine Wk_regionZ fun Z hZ => ?_
    simp only [go_sem, seval, hr4]
    refine RX_guard_nbool rfl (fun hc5 => ?_) (fun hc5 => ?_)
    · rw [if_neg (ne_true_of_eq_false hc5)] at h
      simp only [go_sem, seval, hc5]
      refine hZ _ (pp (hJ3 _ true ?_ h))
      refine wr ?_ ?_ <;> repeat' first | rfl | constructor
    rw [if_pos hc5] at h
    simp only [go_sem, seval, hc5]
    refine RX_guard_nbool rfl (fun hc6 => ?_) (fun hc6 => ?_)
    · rw [if_neg (ne_true_of_eq_false hc6)] at h
      simp only [go_sem, seval, hc6]
      refine hZ _ (pp (hJ3 _ true ?_ h))
      refine wr ?_ ?_ <;> repeat' first | rfl | constructor
    rw [if_pos hc6] at h
    simp only [go_sem, seval, hc6]
    refine RX_guard_dec rfl (fun hc7 => ?_) (fun hc7 => ?_)
    · have hc7d := decide_eq_true hc7
      rw [if_pos hc7] at h
      simp only [go_sem, seval, hc7d]
      refine hZ _ (pp (hJ3 _ true ?_ h))
      refine wr ?_ ?_ <;> repeat' first | rfl | constructor
    have hc7d := decide_eq_false hc7
    rw [if_neg hc7] at h
    simp only [go_sem, seval, hc7d]
    refine hZ _ (pp (hJ3 _ (decide (1099511627776 < x1.Calls)) ?_ h))
    refine wr ?_ ?_ <;> repeat' first | rfl | constructor
  intro c6 h
  unfold ref24_turn_J1 at h
  refine Wk_cond_bool rfl (fun hc8 => ?_) (fun hc8 => ?_)
  · rw [if_pos hc8] at h
    refine Ws fun Z hZ => ?_
    simp only [go_sem, seval, hc8]
    refine hZ _ (pp (Wk_ret (pp ?_)))
    cases h
    simp only [go_sem, seval]
    exact ⟨_, rfl, RokI.h, PureI.h⟩
  rw [if_neg (ne_true_of_eq_false hc8)] at h
  refine Wk_skip (pp ?_)
  unfold ref24_turn_J6 at h
  apply Wk_join0 ⟨tab 174 (updT (updT (updT deadT 1 (.val (.int .i64 a1))) 2 (.pref 2 [] 0 0)) 5 (.pref 5 [] 0 0)), (upd (upd RZ 2 (.sl true none 4 (some 1) [Actor.row a0])) 5 (.sl true none 30 (some 1) [Turn.row x1]))⟩
  · intro hJ9
    refine Ws fun Z hZ => ?_
    simp only [go_sem, seval, hc8]
    refine hZ _ (pp (sw (Wk_cond_dec rfl) (fun hc10 => ?_) (fun hc10 => ?_)))
    · have hc10d := decide_eq_false hc10
      rw [if_neg hc10] at h
      refine Wk_skip (pp (hJ9 _  ?_ h))
      refine wr ?_ ?_ <;> repeat' first | rfl | constructor
    have hc10d := decide_eq_true hc10
    rw [if_pos hc10] at h
    refine Wk_seq ?_
    obtain ⟨x12, hb11, hx12, h⟩ := gx_some h
    refine Wk_regionZ fun Z hZ => ?_
    simp only [go_sem, seval, hc10d, hb11, hx12]
    refine hZ _ (pp ?_)
    apply Wk_join1 (fun (c14 : Bool) => ⟨tab 174 (updT (updT (updT (updT deadT 1 (.val (.int .i64 a1))) 2 (.pref 2 [] 0 0)) 5 (.pref 5 [] 0 0)) 57 (.val (.bool c14))), (upd (upd RZ 2 (.sl true none 4 (some 1) [Actor.row a0])) 5 (.sl true none 30 (some 1) [Turn.row x1]))⟩)
    · intro hJ13
      obtain ⟨r15, hr14, h⟩ := Option.bind_eq_some_iff.1 h
      refine Wk_regionZ fun Z hZ => ?_
      simp only [go_sem, seval, hr14]
      refine RX_guard_nbool rfl (fun hc15 => ?_) (fun hc15 => ?_)
      · rw [if_neg (ne_true_of_eq_false hc15)] at h
        simp only [go_sem, seval, hc15]
        refine hZ _ (pp (hJ13 _ true ?_ h))
        refine wr ?_ ?_ <;> repeat' first | rfl | constructor
      rw [if_pos hc15] at h
      simp only [go_sem, seval, hc15]
      refine RX_guard_nbool rfl (fun hc16 => ?_) (fun hc16 => ?_)
      · rw [if_neg (ne_true_of_eq_false hc16)] at h
        simp only [go_sem, seval, hc16]
        refine hZ _ (pp (hJ13 _ true ?_ h))
        refine wr ?_ ?_ <;> repeat' first | rfl | constructor
      rw [if_pos hc16] at h
      simp only [go_sem, seval, hc16]
      refine hZ _ (pp (hJ13 _ x12.Done ?_ h))
      refine wr ?_ ?_ <;> repeat' first | rfl | constructor
    intro c14 h
    unfold ref24_turn_J2 at h
    refine Wk_cond_bool rfl (fun hc17 => ?_) (fun hc17 => ?_)
    · rw [if_pos hc17] at h
      refine Ws fun Z hZ => ?_
      simp only [go_sem, seval, hc17]
      refine hZ _ (pp (Wk_ret (pp ?_)))
      cases h
      simp only [go_sem, seval]
      exact ⟨_, rfl, RokI.h, PureI.h⟩
    rw [if_neg (ne_true_of_eq_false hc17)] at h
    refine Wk_skip (pp (hJ9 _  ?_ h))
    refine wr ?_ ?_ <;> repeat' first | rfl | constructor
  intro  h
  unfold ref24_turn_J5 at h
  refine Wk_seq (Wk_seq ?_)
  obtain ⟨r16, hr18, h⟩ := Option.bind_eq_some_iff.1 h
  refine Wk_regionZ fun Z hZ => ?_
  simp only [go_sem, seval, hr18]
  refine hZ _ (pp (Wk_cond_bool rfl (fun hc19 => ?_) (fun hc19 => ?_)))
  · rw [if_pos hc19] at h
    refine Ws fun Z hZ => ?_
    simp only [go_sem, seval, hc19]
    refine sw (RX_guard_dec rfl) (fun hc20 => ?_) (fun hc20 => ?_)
    · have hc20d := decide_eq_false hc20
      rw [if_neg hc20] at h
      simp only [go_sem, seval, hc20d]
      refine hZ _ (pp (Wk_ret (pp ?_)))
      cases h
      simp only [go_sem, seval]
      exact ⟨_, rfl, RokI.h, PureI.h⟩
    have hc20d := decide_eq_true hc20
    rw [if_pos hc20] at h
    simp only [go_sem, seval, hc20d]
    refine sw (RX_guard_nbool rfl) (fun hc21 => ?_) (fun hc21 => ?_)
    · rw [if_pos hc21] at h
      simp only [go_sem, seval, hc21]
      refine hZ _ (pp (Wk_ret (pp ?_)))
      cases h
      simp only [go_sem, seval]
      exact ⟨_, rfl, RokI.h, PureI.h⟩
    rw [if_neg (ne_true_of_eq_false hc21)] at h
    simp only [go_sem, seval, hc21]
    refine RX_guard_nbool rfl (fun hc22 => ?_) (fun hc22 => ?_)
    · rw [if_neg (ne_true_of_eq_false hc22)] at h
      obtain ⟨r17, hr23, h⟩ := Option.bind_eq_some_iff.1 h
      simp only [go_sem, seval, hc22, hr23]
      refine hZ _ (pp (Wk_ret (pp ?_)))
      cases h
      simp only [go_sem, seval]
      exact ⟨_, rfl, RokI.h, PureI.h⟩
    rw [if_pos hc22] at h
    simp only [go_sem, seval, hc22]
    refine hZ _ (pp (Wk_ret (pp ?_)))
    cases h
    simp only [go_sem, seval]
    exact ⟨_, rfl, RokI.h, PureI.h⟩
  rw [if_neg (ne_true_of_eq_false hc19)] at h
  refine Wk_skip (pp (Ws fun Z hZ => ?_))
  simp only [go_sem, seval, hc19]
  refine hZ _ (pp (Wk_seq ?_))
  apply Wk_join1 (fun (c30 : Bool) => ⟨tab 174 (updT (updT (updT deadT 5 (.pref 5 [] 0 0)) 7 (.pref 7 [] 0 0)) 146 (.val (.bool c30))), (upd (upd RZ 5 (.sl true none 30 (some 1) [Turn.row x1])) 7 (.sl true none 9 (some 1) [Request.row x1.Call]))⟩)
  · intro hJ24
    obtain ⟨r31, hr25, h⟩ := Option.bind_eq_some_iff.1 h
    refine Wk_regionH fun Y hY => ?_
    refine RX2_s rfl rfl fun Z hZ => ?_
    simp only [go_sem, seval]
    repeat with_reducible refine and_bar (by kernel_rfl) ?_
    refine hZ _ ?_
    refine RX2_s rfl rfl fun Z hZ => ?_
    simp only [go_sem, seval, hr25]
    refine hZ _ ?_
    refine RX2_s rfl rfl fun Z hZ => ?_
    simp only [go_sem, seval]
    refine hZ _ ?_
    refine RX2_s rfl rfl fun Z hZ => ?_
    simp only [go_sem, seval]
    refine hZ _ ?_
    refine RX2_guard_nbool rfl (fun hc26 => ?_) (fun hc26 => ?_)
    · rw [if_neg (ne_true_of_eq_false hc26)] at h
      refine RX2_norm fun Z hZ => ?_
      simp only [hc26, Bool.not_false]
      refine hZ _ ?_
      refine RX2_g rfl fun Z hZ => ?_
      simp only [go_sem, seval]
      refine hZ _ ?_
      refine RX2_g rfl fun Z hZ => ?_
      simp only [go_sem, seval]
      refine hZ _ ?_
      refine RX2_g rfl fun Z hZ => ?_
      simp only [go_sem, seval]
      refine hZ _ ?_
      refine RX2_s rfl rfl fun Z hZ => ?_
      simp only [go_sem, seval]
      refine hZ _ ?_
      refine RX2_s rfl rfl fun Z hZ => ?_
      simp only [go_sem, seval]
      refine hZ _ ?_
      refine RX2_g rfl fun Z hZ => ?_
      simp only [go_sem, seval]
      refine hZ _ ?_
      refine RX2_g rfl fun Z hZ => ?_
      simp only [go_sem, seval]
      refine hZ _ ?_
      refine RX2_g rfl fun Z hZ => ?_
      simp only [go_sem, seval]
      refine hZ _ ?_
      refine RX2_g rfl fun Z hZ => ?_
      simp only [go_sem, seval]
      refine hZ _ ?_
      refine RX2_g rfl fun Z hZ => ?_
      simp only [go_sem, seval]
      refine hZ _ ?_
      refine RX2_g rfl fun Z hZ => ?_
      simp only [go_sem, seval]
      refine hZ _ ?_
      refine RX2_s rfl rfl fun Z hZ => ?_
      simp only [go_sem, seval]
      refine hZ _ ?_
      refine RX2_s rfl rfl fun Z hZ => ?_
      simp only [go_sem, seval]
      refine hZ _ ?_
      refine RX2_g rfl fun Z hZ => ?_
      simp only [go_sem, seval]
      refine hZ _ ?_
      refine RX2_g rfl fun Z hZ => ?_
      simp only [go_sem, seval]
      refine hZ _ ?_
      refine RX2_g rfl fun Z hZ => ?_
      simp only [go_sem, seval]
      refine hZ _ ?_
      refine RX2_g rfl fun Z hZ => ?_
      simp only [go_sem, seval]
      refine hZ _ ?_
      refine RX2_g rfl fun Z hZ => ?_
      simp only [go_sem, seval]
      refine hZ _ ?_
      refine RX2_g rfl fun Z hZ => ?_
      simp only [go_sem, seval]
      refine hZ _ ?_
      refine RX2_s rfl rfl fun Z hZ => ?_
      simp only [go_sem, seval]
      refine hZ _ ?_
      refine RX2_s rfl rfl fun Z hZ => ?_
      simp only [go_sem, seval]
      refine hZ _ ?_
      refine RX2_g rfl fun Z hZ => ?_
      simp only [go_sem, seval]
      refine hZ _ ?_
      refine RX2_g rfl fun Z hZ => ?_
      simp only [go_sem, seval]
      refine hZ _ ?_
      refine RX2_g rfl fun Z hZ => ?_
      simp only [go_sem, seval]
      refine hZ _ ?_
      refine RX2_g rfl fun Z hZ => ?_
      simp only [go_sem, seval]
      refine hZ _ ?_
      refine RX2_g rfl fun Z hZ => ?_
      simp only [go_sem, seval]
      refine hZ _ ?_
      refine RX2_g rfl fun Z hZ => ?_
      simp only [go_sem, seval]
      refine hZ _ ?_
      refine RX2_s rfl rfl fun Z hZ => ?_
      simp only [go_sem, seval]
      refine hZ _ ?_
      refine RX2_s rfl rfl fun Z hZ => ?_
      simp only [go_sem, seval]
      refine hZ _ ?_
      refine RX2_g rfl fun Z hZ => ?_
      simp only [go_sem, seval]
      refine hZ _ ?_
      refine RX2_g rfl fun Z hZ => ?_
      simp only [go_sem, seval]
      refine hZ _ ?_
      refine RX2_g rfl fun Z hZ => ?_
      simp only [go_sem, seval]
      refine hZ _ ?_
      refine RX2_g rfl fun Z hZ => ?_
      simp only [go_sem, seval]
      refine hZ _ ?_
      refine RX2_g rfl fun Z hZ => ?_
      simp only [go_sem, seval]
      refine hZ _ ?_
      refine RX2_g rfl fun Z hZ => ?_
      simp only [go_sem, seval]
      refine hZ _ ?_
      refine RX2_off rfl fun Z hZ => ?_
      simp only [go_sem, seval]
      refine hZ _ ?_
      refine RX2_g rfl fun Z hZ => ?_
      simp only [go_sem, seval]
      refine hZ _ ?_
      refine RX2_g rfl fun Z hZ => ?_
      simp only [go_sem, seval]
      refine hZ _ ?_
      refine RX2_g rfl fun Z hZ => ?_
      simp only [go_sem, seval]
      refine hZ _ ?_
      refine RX2_g rfl fun Z hZ => ?_
      simp only [go_sem, seval]
      refine hZ _ ?_
      refine RX2_off rfl fun Z hZ => ?_
      simp only [go_sem, seval]
      refine hZ _ ?_
      refine RX2_g rfl fun Z hZ => ?_
      simp only [go_sem, seval]
      refine hZ _ ?_
      refine RX2_g rfl fun Z hZ => ?_
      simp only [go_sem, seval]
      refine hZ _ ?_
      refine RX2_s rfl rfl fun Z hZ => ?_
      simp only [go_sem, seval]
      refine hZ _ ?_
      refine RX2_s rfl rfl fun Z hZ => ?_
      simp only [go_sem, seval]
      refine hZ _ ?_
      refine RX2_g rfl fun Z hZ => ?_
      simp only [go_sem, seval]
      refine hZ _ ?_
      refine RX2_g rfl fun Z hZ => ?_
      simp only [go_sem, seval]
      refine hZ _ ?_
      refine RX2_g rfl fun Z hZ => ?_
      simp only [go_sem, seval]
      refine hZ _ ?_
      refine RX2_g rfl fun Z hZ => ?_
      simp only [go_sem, seval]
      refine hZ _ ?_
      refine RX2_g rfl fun Z hZ => ?_
      simp only [go_sem, seval]
      refine hZ _ ?_
      refine RX2_g rfl fun Z hZ => ?_
      simp only [go_sem, seval]
      refine hZ _ ?_
      refine RX2_off rfl fun Z hZ => ?_
      simp only [go_sem, seval]
      refine hZ _ ?_
      refine RX2_g rfl fun Z hZ => ?_
      simp only [go_sem, seval]
      refine hZ _ ?_
      refine RX2_g rfl fun Z hZ => ?_
      simp only [go_sem, seval]
      refine hZ _ ?_
      refine RX2_g rfl fun Z hZ => ?_
      simp only [go_sem, seval]
      refine hZ _ ?_
      refine RX2_off rfl fun Z hZ => ?_
      simp only [go_sem, seval]
      refine hZ _ ?_
      refine RX2_g rfl fun Z hZ => ?_
      simp only [go_sem, seval]
      refine hZ _ ?_
      refine RX2_g rfl fun Z hZ => ?_
      simp only [go_sem, seval]
      refine hZ _ ?_
      refine RX2_s rfl rfl fun Z hZ => ?_
      simp only [go_sem, seval]
      refine hZ _ ?_
      refine RX2_end (by kernel_rfl) (hY _ (pp (hJ24 _ true ?_ h)))
      refine wr ?_ ?_ <;> repeat' first | rfl | constructor
    rw [if_pos hc26] at h
    refine RX2_norm fun Z hZ => ?_
    simp only [hc26, Bool.not_true]
    refine hZ _ ?_
    refine RX2_g rfl fun Z hZ => ?_
    simp only [go_sem, seval]
    refine hZ _ ?_
    refine RX2_g rfl fun Z hZ => ?_
    simp only [go_sem, seval]
    refine hZ _ ?_
    refine RX2_g rfl fun Z hZ => ?_
    simp only [go_sem, seval]
    refine hZ _ ?_
    refine RX2_s rfl rfl fun Z hZ => ?_
    simp only [go_sem, seval]
    refine hZ _ ?_
    refine RX2_s rfl rfl fun Z hZ => ?_
    simp only [go_sem, seval]
    refine hZ _ ?_
    refine RX2_guard_dec rfl (fun hc27 => ?_) (fun hc27 => ?_)
    · have hc27d := decide_eq_true hc27
      rw [if_pos hc27] at h
      refine RX2_norm fun Z hZ => ?_
      simp only [hc27d]
      refine hZ _ ?_
      refine RX2_g rfl fun Z hZ => ?_
      simp only [go_sem, seval]
      refine hZ _ ?_
      refine RX2_g rfl fun Z hZ => ?_
      simp only [go_sem, seval]
      refine hZ _ ?_
      refine RX2_g rfl fun Z hZ => ?_
      simp only [go_sem, seval]
      refine hZ _ ?_
      refine RX2_g rfl fun Z hZ => ?_
      simp only [go_sem, seval]
      refine hZ _ ?_
      refine RX2_g rfl fun Z hZ => ?_
      simp only [go_sem, seval]
      refine hZ _ ?_
      refine RX2_g rfl fun Z hZ => ?_
      simp only [go_sem, seval]
      refine hZ _ ?_
      refine RX2_s rfl rfl fun Z hZ => ?_
      simp only [go_sem, seval]
      refine hZ _ ?_
      refine RX2_s rfl rfl fun Z hZ => ?_
      simp only [go_sem, seval]
      refine hZ _ ?_
      refine RX2_g rfl fun Z hZ => ?_
      simp only [go_sem, seval]
      refine hZ _ ?_
      refine RX2_g rfl fun Z hZ => ?_
      simp only [go_sem, seval]
      refine hZ _ ?_
      refine RX2_g rfl fun Z hZ => ?_
      simp only [go_sem, seval]
      refine hZ _ ?_
      refine RX2_g rfl fun Z hZ => ?_
      simp only [go_sem, seval]
      refine hZ _ ?_
      refine RX2_g rfl fun Z hZ => ?_
      simp only [go_sem, seval]
      refine hZ _ ?_
      refine RX2_g rfl fun Z hZ => ?_
      simp only [go_sem, seval]
      refine hZ _ ?_
      refine RX2_s rfl rfl fun Z hZ => ?_
      simp only [go_sem, seval]
      refine hZ _ ?_
      refine RX2_s rfl rfl fun Z hZ => ?_
      simp only [go_sem, seval]
      refine hZ _ ?_
      refine RX2_g rfl fun Z hZ => ?_
      simp only [go_sem, seval]
      refine hZ _ ?_
      refine RX2_g rfl fun Z hZ => ?_
      simp only [go_sem, seval]
      refine hZ _ ?_
      refine RX2_g rfl fun Z hZ => ?_
      simp only [go_sem, seval]
      refine hZ _ ?_
      refine RX2_g rfl fun Z hZ => ?_
      simp only [go_sem, seval]
      refine hZ _ ?_
      refine RX2_g rfl fun Z hZ => ?_
      simp only [go_sem, seval]
      refine hZ _ ?_
      refine RX2_g rfl fun Z hZ => ?_
      simp only [go_sem, seval]
      refine hZ _ ?_
      refine RX2_s rfl rfl fun Z hZ => ?_
      simp only [go_sem, seval]
      refine hZ _ ?_
      refine RX2_s rfl rfl fun Z hZ => ?_
      simp only [go_sem, seval]
      refine hZ _ ?_
      refine RX2_g rfl fun Z hZ => ?_
      simp only [go_sem, seval]
      refine hZ _ ?_
      refine RX2_g rfl fun Z hZ => ?_
      simp only [go_sem, seval]
      refine hZ _ ?_
      refine RX2_g rfl fun Z hZ => ?_
      simp only [go_sem, seval]
      refine hZ _ ?_
      refine RX2_g rfl fun Z hZ => ?_
      simp only [go_sem, seval]
      refine hZ _ ?_
      refine RX2_g rfl fun Z hZ => ?_
      simp only [go_sem, seval]
      refine hZ _ ?_
      refine RX2_g rfl fun Z hZ => ?_
      simp only [go_sem, seval]
      refine hZ _ ?_
      refine RX2_off rfl fun Z hZ => ?_
      simp only [go_sem, seval]
      refine hZ _ ?_
      refine RX2_g rfl fun Z hZ => ?_
      simp only [go_sem, seval]
      refine hZ _ ?_
      refine RX2_g rfl fun Z hZ => ?_
      simp only [go_sem, seval]
      refine hZ _ ?_
      refine RX2_g rfl fun Z hZ => ?_
      simp only [go_sem, seval]
      refine hZ _ ?_
      refine RX2_g rfl fun Z hZ => ?_
      simp only [go_sem, seval]
      refine hZ _ ?_
      refine RX2_off rfl fun Z hZ => ?_
      simp only [go_sem, seval]
      refine hZ _ ?_
      refine RX2_g rfl fun Z hZ => ?_
      simp only [go_sem, seval]
      refine hZ _ ?_
      refine RX2_g rfl fun Z hZ => ?_
      simp only [go_sem, seval]
      refine hZ _ ?_
      refine RX2_s rfl rfl fun Z hZ => ?_
      simp only [go_sem, seval]
      refine hZ _ ?_
      refine RX2_s rfl rfl fun Z hZ => ?_
      simp only [go_sem, seval]
      refine hZ _ ?_
      refine RX2_g rfl fun Z hZ => ?_
      simp only [go_sem, seval]
      refine hZ _ ?_
      refine RX2_g rfl fun Z hZ => ?_
      simp only [go_sem, seval]
      refine hZ _ ?_
      refine RX2_g rfl fun Z hZ => ?_
      simp only [go_sem, seval]
      refine hZ _ ?_
      refine RX2_g rfl fun Z hZ => ?_
      simp only [go_sem, seval]
      refine hZ _ ?_
      refine RX2_g rfl fun Z hZ => ?_
      simp only [go_sem, seval]
      refine hZ _ ?_
      refine RX2_g rfl fun Z hZ => ?_
      simp only [go_sem, seval]
      refine hZ _ ?_
      refine RX2_off rfl fun Z hZ => ?_
      simp only [go_sem, seval]
      refine hZ _ ?_
      refine RX2_g rfl fun Z hZ => ?_
      simp only [go_sem, seval]
      refine hZ _ ?_
      refine RX2_g rfl fun Z hZ => ?_
      simp only [go_sem, seval]
      refine hZ _ ?_
      refine RX2_g rfl fun Z hZ => ?_
      simp only [go_sem, seval]
      refine hZ _ ?_
      refine RX2_off rfl fun Z hZ => ?_
      simp only [go_sem, seval]
      refine hZ _ ?_
      refine RX2_g rfl fun Z hZ => ?_
      simp only [go_sem, seval]
      refine hZ _ ?_
      refine RX2_g rfl fun Z hZ => ?_
      simp only [go_sem, seval]
      refine hZ _ ?_
      refine RX2_s rfl rfl fun Z hZ => ?_
      simp only [go_sem, seval]
      refine hZ _ ?_
      refine RX2_end (by kernel_rfl) (hY _ (pp (hJ24 _ true ?_ h)))
      refine wr ?_ ?_ <;> repeat' first | rfl | constructor
    have hc27d := decide_eq_false hc27
    rw [if_neg hc27] at h
    refine RX2_norm fun Z hZ => ?_
    simp only [hc27d]
    refine hZ _ ?_
    refine RX2_g rfl fun Z hZ => ?_
    simp only [go_sem, seval]
    refine hZ _ ?_
    refine RX2_g rfl fun Z hZ => ?_
    simp only [go_sem, seval]
    refine hZ _ ?_
    refine RX2_g rfl fun Z hZ => ?_
    simp only [go_sem, seval]
    refine hZ _ ?_
    refine RX2_g rfl fun Z hZ => ?_
    simp only [go_sem, seval]
    refine hZ _ ?_
    refine RX2_g rfl fun Z hZ => ?_
    simp only [go_sem, seval]
    refine hZ _ ?_
    refine RX2_g rfl fun Z hZ => ?_
    simp only [go_sem, seval]
    refine hZ _ ?_
    refine RX2_s rfl rfl fun Z hZ => ?_
    simp only [go_sem, seval]
    refine hZ _ ?_
    refine RX2_s rfl rfl fun Z hZ => ?_
    simp only [go_sem, seval]
    refine hZ _ ?_
    refine RX2_guard_nbool rfl (fun hc28 => ?_) (fun hc28 => ?_)
    · rw [if_neg (ne_true_of_eq_false hc28)] at h
      refine RX2_norm fun Z hZ => ?_
      simp only [hc28, Bool.not_false]
      refine hZ _ ?_
      refine RX2_g rfl fun Z hZ => ?_
      simp only [go_sem, seval]
      refine hZ _ ?_
      refine RX2_g rfl fun Z hZ => ?_
      simp only [go_sem, seval]
      refine hZ _ ?_
      refine RX2_g rfl fun Z hZ => ?_
      simp only [go_sem, seval]
      refine hZ _ ?_
      refine RX2_g rfl fun Z hZ => ?_
      simp only [go_sem, seval]
      refine hZ _ ?_
      refine RX2_g rfl fun Z hZ => ?_
      simp only [go_sem, seval]
      refine hZ _ ?_
      refine RX2_g rfl fun Z hZ => ?_
      simp only [go_sem, seval]
      refine hZ _ ?_
      refine RX2_s rfl rfl fun Z hZ => ?_
      simp only [go_sem, seval]
      refine hZ _ ?_
      refine RX2_s rfl rfl fun Z hZ => ?_
      simp only [go_sem, seval]
      refine hZ _ ?_
      refine RX2_g rfl fun Z hZ => ?_
      simp only [go_sem, seval]
      refine hZ _ ?_
      refine RX2_g rfl fun Z hZ => ?_
      simp only [go_sem, seval]
      refine hZ _ ?_
      refine RX2_g rfl fun Z hZ => ?_
      simp only [go_sem, seval]
      refine hZ _ ?_
      refine RX2_g rfl fun Z hZ => ?_
      simp only [go_sem, seval]
      refine hZ _ ?_
      refine RX2_g rfl fun Z hZ => ?_
      simp only [go_sem, seval]
      refine hZ _ ?_
      refine RX2_g rfl fun Z hZ => ?_
      simp only [go_sem, seval]
      refine hZ _ ?_
      refine RX2_s rfl rfl fun Z hZ => ?_
      simp only [go_sem, seval]
      refine hZ _ ?_
      refine RX2_s rfl rfl fun Z hZ => ?_
      simp only [go_sem, seval]
      refine hZ _ ?_
      refine RX2_g rfl fun Z hZ => ?_
      simp only [go_sem, seval]
      refine hZ _ ?_
      refine RX2_g rfl fun Z hZ => ?_
      simp only [go_sem, seval]
      refine hZ _ ?_
      refine RX2_g rfl fun Z hZ => ?_
      simp only [go_sem, seval]
      refine hZ _ ?_
      refine RX2_g rfl fun Z hZ => ?_
      simp only [go_sem, seval]
      refine hZ _ ?_
      refine RX2_g rfl fun Z hZ => ?_
      simp only [go_sem, seval]
      refine hZ _ ?_
      refine RX2_g rfl fun Z hZ => ?_
      simp only [go_sem, seval]
      refine hZ _ ?_
      refine RX2_off rfl fun Z hZ => ?_
      simp only [go_sem, seval]
      refine hZ _ ?_
      refine RX2_g rfl fun Z hZ => ?_
      simp only [go_sem, seval]
      refine hZ _ ?_
      refine RX2_g rfl fun Z hZ => ?_
      simp only [go_sem, seval]
      refine hZ _ ?_
      refine RX2_g rfl fun Z hZ => ?_
      simp only [go_sem, seval]
      refine hZ _ ?_
      refine RX2_g rfl fun Z hZ => ?_
      simp only [go_sem, seval]
      refine hZ _ ?_
      refine RX2_off rfl fun Z hZ => ?_
      simp only [go_sem, seval]
      refine hZ _ ?_
      refine RX2_g rfl fun Z hZ => ?_
      simp only [go_sem, seval]
      refine hZ _ ?_
      refine RX2_g rfl fun Z hZ => ?_
      simp only [go_sem, seval]
      refine hZ _ ?_
      refine RX2_s rfl rfl fun Z hZ => ?_
      simp only [go_sem, seval]
      refine hZ _ ?_
      refine RX2_s rfl rfl fun Z hZ => ?_
      simp only [go_sem, seval]
      refine hZ _ ?_
      refine RX2_g rfl fun Z hZ => ?_
      simp only [go_sem, seval]
      refine hZ _ ?_
      refine RX2_g rfl fun Z hZ => ?_
      simp only [go_sem, seval]
      refine hZ _ ?_
      refine RX2_g rfl fun Z hZ => ?_
      simp only [go_sem, seval]
      refine hZ _ ?_
      refine RX2_g rfl fun Z hZ => ?_
      simp only [go_sem, seval]
      refine hZ _ ?_
      refine RX2_g rfl fun Z hZ => ?_
      simp only [go_sem, seval]
      refine hZ _ ?_
      refine RX2_g rfl fun Z hZ => ?_
      simp only [go_sem, seval]
      refine hZ _ ?_
      refine RX2_off rfl fun Z hZ => ?_
      simp only [go_sem, seval]
      refine hZ _ ?_
      refine RX2_g rfl fun Z hZ => ?_
      simp only [go_sem, seval]
      refine hZ _ ?_
      refine RX2_g rfl fun Z hZ => ?_
      simp only [go_sem, seval]
      refine hZ _ ?_
      refine RX2_g rfl fun Z hZ => ?_
      simp only [go_sem, seval]
      refine hZ _ ?_
      refine RX2_off rfl fun Z hZ => ?_
      simp only [go_sem, seval]
      refine hZ _ ?_
      refine RX2_g rfl fun Z hZ => ?_
      simp only [go_sem, seval]
      refine hZ _ ?_
      refine RX2_g rfl fun Z hZ => ?_
      simp only [go_sem, seval]
      refine hZ _ ?_
      refine RX2_s rfl rfl fun Z hZ => ?_
      simp only [go_sem, seval]
      refine hZ _ ?_
      refine RX2_end (by kernel_rfl) (hY _ (pp (hJ24 _ true ?_ h)))
      refine wr ?_ ?_ <;> repeat' first | rfl | constructor
    rw [if_pos hc28] at h
    refine RX2_norm fun Z hZ => ?_
    simp only [hc28, Bool.not_true]
    refine hZ _ ?_
    refine RX2_g rfl fun Z hZ => ?_
    simp only [go_sem, seval]
    refine hZ _ ?_
    refine RX2_g rfl fun Z hZ => ?_
    simp only [go_sem, seval]
    refine hZ _ ?_
    refine RX2_g rfl fun Z hZ => ?_
    simp only [go_sem, seval]
    refine hZ _ ?_
    refine RX2_g rfl fun Z hZ => ?_
    simp only [go_sem, seval]
    refine hZ _ ?_
    refine RX2_g rfl fun Z hZ => ?_
    simp only [go_sem, seval]
    refine hZ _ ?_
    refine RX2_g rfl fun Z hZ => ?_
    simp only [go_sem, seval]
    refine hZ _ ?_
    refine RX2_s rfl rfl fun Z hZ => ?_
    simp only [go_sem, seval]
    refine hZ _ ?_
    refine RX2_s rfl rfl fun Z hZ => ?_
    simp only [go_sem, seval]
    refine hZ _ ?_
    refine RX2_guard_ndec rfl (fun hc29 => ?_) (fun hc29 => ?_)
    · have hc29d := decide_eq_false hc29
      rw [if_neg hc29] at h
      refine RX2_norm fun Z hZ => ?_
      simp only [hc29d, Bool.not_false]
      refine hZ _ ?_
      refine RX2_g rfl fun Z hZ => ?_
      simp only [go_sem, seval]
      refine hZ _ ?_
      refine RX2_g rfl fun Z hZ => ?_
      simp only [go_sem, seval]
      refine hZ _ ?_
      refine RX2_g rfl fun Z hZ => ?_
      simp only [go_sem, seval]
      refine hZ _ ?_
      refine RX2_g rfl fun Z hZ => ?_
      simp only [go_sem, seval]
      refine hZ _ ?_
      refine RX2_g rfl fun Z hZ => ?_
      simp only [go_sem, seval]
      refine hZ _ ?_
      refine RX2_g rfl fun Z hZ => ?_
      simp only [go_sem, seval]
      refine hZ _ ?_
      refine RX2_s rfl rfl fun Z hZ => ?_
      simp only [go_sem, seval]
      refine hZ _ ?_
      refine RX2_s rfl rfl fun Z hZ => ?_
      simp only [go_sem, seval]
      refine hZ _ ?_
      refine RX2_g rfl fun Z hZ => ?_
      simp only [go_sem, seval]
      refine hZ _ ?_
      refine RX2_g rfl fun Z hZ => ?_
      simp only [go_sem, seval]
      refine hZ _ ?_
      refine RX2_g rfl fun Z hZ => ?_
      simp only [go_sem, seval]
      refine hZ _ ?_
      refine RX2_g rfl fun Z hZ => ?_
      simp only [go_sem, seval]
      refine hZ _ ?_
      refine RX2_g rfl fun Z hZ => ?_
      simp only [go_sem, seval]
      refine hZ _ ?_
      refine RX2_g rfl fun Z hZ => ?_
      simp only [go_sem, seval]
      refine hZ _ ?_
      refine RX2_off rfl fun Z hZ => ?_
      simp only [go_sem, seval]
      refine hZ _ ?_
      refine RX2_g rfl fun Z hZ => ?_
      simp only [go_sem, seval]
      refine hZ _ ?_
      refine RX2_g rfl fun Z hZ => ?_
      simp only [go_sem, seval]
      refine hZ _ ?_
      refine RX2_g rfl fun Z hZ => ?_
      simp only [go_sem, seval]
      refine hZ _ ?_
      refine RX2_g rfl fun Z hZ => ?_
      simp only [go_sem, seval]
      refine hZ _ ?_
      refine RX2_off rfl fun Z hZ => ?_
      simp only [go_sem, seval]
      refine hZ _ ?_
      refine RX2_g rfl fun Z hZ => ?_
      simp only [go_sem, seval]
      refine hZ _ ?_
      refine RX2_g rfl fun Z hZ => ?_
      simp only [go_sem, seval]
      refine hZ _ ?_
      refine RX2_s rfl rfl fun Z hZ => ?_
      simp only [go_sem, seval]
      refine hZ _ ?_
      refine RX2_s rfl rfl fun Z hZ => ?_
      simp only [go_sem, seval]
      refine hZ _ ?_
      refine RX2_g rfl fun Z hZ => ?_
      simp only [go_sem, seval]
      refine hZ _ ?_
      refine RX2_g rfl fun Z hZ => ?_
      simp only [go_sem, seval]
      refine hZ _ ?_
      refine RX2_g rfl fun Z hZ => ?_
      simp only [go_sem, seval]
      refine hZ _ ?_
      refine RX2_g rfl fun Z hZ => ?_
      simp only [go_sem, seval]
      refine hZ _ ?_
      refine RX2_g rfl fun Z hZ => ?_
      simp only [go_sem, seval]
      refine hZ _ ?_
      refine RX2_g rfl fun Z hZ => ?_
      simp only [go_sem, seval]
      refine hZ _ ?_
      refine RX2_off rfl fun Z hZ => ?_
      simp only [go_sem, seval]
      refine hZ _ ?_
      refine RX2_g rfl fun Z hZ => ?_
      simp only [go_sem, seval]
      refine hZ _ ?_
      refine RX2_g rfl fun Z hZ => ?_
      simp only [go_sem, seval]
      refine hZ _ ?_
      refine RX2_g rfl fun Z hZ => ?_
      simp only [go_sem, seval]
      refine hZ _ ?_
      refine RX2_off rfl fun Z hZ => ?_
      simp only [go_sem, seval]
      refine hZ _ ?_
      refine RX2_g rfl fun Z hZ => ?_
      simp only [go_sem, seval]
      refine hZ _ ?_
      refine RX2_g rfl fun Z hZ => ?_
      simp only [go_sem, seval]
      refine hZ _ ?_
      refine RX2_s rfl rfl fun Z hZ => ?_
      simp only [go_sem, seval]
      refine hZ _ ?_
      refine RX2_end (by kernel_rfl) (hY _ (pp (hJ24 _ true ?_ h)))
      refine wr ?_ ?_ <;> repeat' first | rfl | constructor
    have hc29d := decide_eq_true hc29
    rw [if_pos hc29] at h
    refine RX2_norm fun Z hZ => ?_
    simp only [hc29d, Bool.not_true]
    refine hZ _ ?_
    refine RX2_g rfl fun Z hZ => ?_
    simp only [go_sem, seval]
    refine hZ _ ?_
    refine RX2_g rfl fun Z hZ => ?_
    simp only [go_sem, seval]
    refine hZ _ ?_
    refine RX2_g rfl fun Z hZ => ?_
    simp only [go_sem, seval]
    refine hZ _ ?_
    refine RX2_g rfl fun Z hZ => ?_
    simp only [go_sem, seval]
    refine hZ _ ?_
    refine RX2_g rfl fun Z hZ => ?_
    simp only [go_sem, seval]
    refine hZ _ ?_
    refine RX2_g rfl fun Z hZ => ?_
    simp only [go_sem, seval]
    refine hZ _ ?_
    refine RX2_s rfl rfl fun Z hZ => ?_
    simp only [go_sem, seval]
    refine hZ _ ?_
    refine RX2_s rfl rfl fun Z hZ => ?_
    simp only [go_sem, seval]
    refine hZ _ ?_
    refine RX2_guard_ndec rfl (fun hc30 => ?_) (fun hc30 => ?_)
    · have hc30d := decide_eq_false hc30
      rw [if_neg hc30] at h
      refine RX2_norm fun Z hZ => ?_
      simp only [hc30d, Bool.not_false]
      refine hZ _ ?_
      refine RX2_g rfl fun Z hZ => ?_
      simp only [go_sem, seval]
      refine hZ _ ?_
      refine RX2_g rfl fun Z hZ => ?_
      simp only [go_sem, seval]
      refine hZ _ ?_
      refine RX2_g rfl fun Z hZ => ?_
      simp only [go_sem, seval]
      refine hZ _ ?_
      refine RX2_g rfl fun Z hZ => ?_
      simp only [go_sem, seval]
      refine hZ _ ?_
      refine RX2_g rfl fun Z hZ => ?_
      simp only [go_sem, seval]
      refine hZ _ ?_
      refine RX2_g rfl fun Z hZ => ?_
      simp only [go_sem, seval]
      refine hZ _ ?_
      refine RX2_off rfl fun Z hZ => ?_
      simp only [go_sem, seval]
      refine hZ _ ?_
      refine RX2_g rfl fun Z hZ => ?_
      simp only [go_sem, seval]
      refine hZ _ ?_
      refine RX2_g rfl fun Z hZ => ?_
      simp only [go_sem, seval]
      refine hZ _ ?_
      refine RX2_g rfl fun Z hZ => ?_
      simp only [go_sem, seval]
      refine hZ _ ?_
      refine RX2_g rfl fun Z hZ => ?_
      simp only [go_sem, seval]
      refine hZ _ ?_
      refine RX2_off rfl fun Z hZ => ?_
      simp only [go_sem, seval]
      refine hZ _ ?_
      refine RX2_g rfl fun Z hZ => ?_
      simp only [go_sem, seval]
      refine hZ _ ?_
      refine RX2_g rfl fun Z hZ => ?_
      simp only [go_sem, seval]
      refine hZ _ ?_
      refine RX2_s rfl rfl fun Z hZ => ?_
      simp only [go_sem, seval]
      refine hZ _ ?_
      refine RX2_s rfl rfl fun Z hZ => ?_
      simp only [go_sem, seval]
      refine hZ _ ?_
      refine RX2_g rfl fun Z hZ => ?_
      simp only [go_sem, seval]
      refine hZ _ ?_
      refine RX2_g rfl fun Z hZ => ?_
      simp only [go_sem, seval]
      refine hZ _ ?_
      refine RX2_g rfl fun Z hZ => ?_
      simp only [go_sem, seval]
      refine hZ _ ?_
      refine RX2_g rfl fun Z hZ => ?_
      simp only [go_sem, seval]
      refine hZ _ ?_
      refine RX2_g rfl fun Z hZ => ?_
      simp only [go_sem, seval]
      refine hZ _ ?_
      refine RX2_g rfl fun Z hZ => ?_
      simp only [go_sem, seval]
      refine hZ _ ?_
      refine RX2_off rfl fun Z hZ => ?_
      simp only [go_sem, seval]
      refine hZ _ ?_
      refine RX2_g rfl fun Z hZ => ?_
      simp only [go_sem, seval]
      refine hZ _ ?_
      refine RX2_g rfl fun Z hZ => ?_
      simp only [go_sem, seval]
      refine hZ _ ?_
      refine RX2_g rfl fun Z hZ => ?_
      simp only [go_sem, seval]
      refine hZ _ ?_
      refine RX2_off rfl fun Z hZ => ?_
      simp only [go_sem, seval]
      refine hZ _ ?_
      refine RX2_g rfl fun Z hZ => ?_
      simp only [go_sem, seval]
      refine hZ _ ?_
      refine RX2_g rfl fun Z hZ => ?_
      simp only [go_sem, seval]
      refine hZ _ ?_
      refine RX2_s rfl rfl fun Z hZ => ?_
      simp only [go_sem, seval]
      refine hZ _ ?_
      refine RX2_end (by kernel_rfl) (hY _ (pp (hJ24 _ true ?_ h)))
      refine wr ?_ ?_ <;> repeat' first | rfl | constructor
    have hc30d := decide_eq_true hc30
    rw [if_pos hc30] at h
    refine RX2_norm fun Z hZ => ?_
    simp only [hc30d, Bool.not_true]
    refine hZ _ ?_
    first | obtain ⟨ha31, h⟩ := apn_some h | (obtain ⟨ha31, h⟩ := apx_some h; rw [List.nil_append] at h)
    simp only [Nat.reduceAdd] at ha31
    obtain ⟨ha32, h⟩ := apx_some h
    simp only [List.length_cons, List.length_nil, Nat.zero_add, Nat.reduceAdd] at ha32
    obtain ⟨r32, hr33, h⟩ := Option.bind_eq_some_iff.1 h
    refine RX2_g rfl fun Z hZ => ?_
    simp only [go_sem, seval]
    repeat with_reducible refine and_bar (by kernel_rfl) ?_
    refine hZ _ ?_
    refine RX2_g rfl fun Z hZ => ?_
    simp only [go_sem, seval]
    refine hZ _ ?_
    refine RX2_g rfl fun Z hZ => ?_
    simp only [go_sem, seval]
    refine hZ _ ?_
    refine RX2_g rfl fun Z hZ => ?_
    simp only [go_sem, seval]
    refine hZ _ ?_
    refine RX2_g rfl fun Z hZ => ?_
    simp only [go_sem, seval]
    refine hZ _ ?_
    refine RX2_g rfl fun Z hZ => ?_
    simp only [go_sem, seval]
    refine hZ _ ?_
    refine RX2_ag rfl fun Z hZ => ?_
    simp only [go_sem, seval, ha31]
    refine hZ _ ?_
    refine RX2_g rfl fun Z hZ => ?_
    simp only [go_sem, seval]
    refine hZ _ ?_
    refine RX2_g rfl fun Z hZ => ?_
    simp only [go_sem, seval]
    refine hZ _ ?_
    refine RX2_g rfl fun Z hZ => ?_
    simp only [go_sem, seval]
    refine hZ _ ?_
    refine RX2_g rfl fun Z hZ => ?_
    simp only [go_sem, seval]
    refine hZ _ ?_
    refine RX2_ag rfl fun Z hZ => ?_
    simp only [go_sem, seval, ha32]
    refine hZ _ ?_
    refine RX2_g rfl fun Z hZ => ?_
    simp only [go_sem, seval, hr33]
    refine hZ _ ?_
    refine RX2_g rfl fun Z hZ => ?_
    simp only [go_sem, seval]
    refine hZ _ ?_
    refine RX2_s rfl rfl fun Z hZ => ?_
    simp only [go_sem, seval]
    refine hZ _ ?_
    refine RX2_s rfl rfl fun Z hZ => ?_
    simp only [go_sem, seval]
    refine hZ _ ?_
    refine RX2_guard_nbool rfl (fun hc34 => ?_) (fun hc34 => ?_)
    · rw [if_neg (ne_true_of_eq_false hc34)] at h
      refine RX2_norm fun Z hZ => ?_
      simp only [hc34, Bool.not_false]
      refine hZ _ ?_
      refine RX2_g rfl fun Z hZ => ?_
      simp only [go_sem, seval]
      refine hZ _ ?_
      refine RX2_g rfl fun Z hZ => ?_
      simp only [go_sem, seval]
      refine hZ _ ?_
      refine RX2_g rfl fun Z hZ => ?_
      simp only [go_sem, seval]
      refine hZ _ ?_
      refine RX2_g rfl fun Z hZ => ?_
      simp only [go_sem, seval]
      refine hZ _ ?_
      refine RX2_g rfl fun Z hZ => ?_
      simp only [go_sem, seval]
      refine hZ _ ?_
      refine RX2_g rfl fun Z hZ => ?_
      simp only [go_sem, seval]
      refine hZ _ ?_
      refine RX2_off rfl fun Z hZ => ?_
      simp only [go_sem, seval]
      refine hZ _ ?_
      refine RX2_g rfl fun Z hZ => ?_
      simp only [go_sem, seval]
      refine hZ _ ?_
      refine RX2_g rfl fun Z hZ => ?_
      simp only [go_sem, seval]
      refine hZ _ ?_
      refine RX2_g rfl fun Z hZ => ?_
      simp only [go_sem, seval]
      refine hZ _ ?_
      refine RX2_off rfl fun Z hZ => ?_
      simp only [go_sem, seval]
      refine hZ _ ?_
      refine RX2_g rfl fun Z hZ => ?_
      simp only [go_sem, seval]
      refine hZ _ ?_
      refine RX2_g rfl fun Z hZ => ?_
      simp only [go_sem, seval]
      refine hZ _ ?_
      refine RX2_s rfl rfl fun Z hZ => ?_
      simp only [go_sem, seval]
      refine hZ _ ?_
      refine RX2_end (by kernel_rfl) (hY _ (pp (hJ24 _ true ?_ h)))
      refine wr ?_ ?_ <;> repeat' first | rfl | constructor
    rw [if_pos hc34] at h
    refine RX2_norm fun Z hZ => ?_
    simp only [hc34, Bool.not_true]
    refine hZ _ ?_
    first | obtain ⟨ha35, h⟩ := apn_some h | (obtain ⟨ha35, h⟩ := apx_some h; rw [List.nil_append] at h)
    simp only [Nat.reduceAdd] at ha35
    obtain ⟨ha36, h⟩ := apx_some h
    simp only [List.length_cons, List.length_nil, Nat.zero_add, Nat.reduceAdd] at ha36
    obtain ⟨r33, hr37, h⟩ := Option.bind_eq_some_iff.1 h
    refine RX2_g rfl fun Z hZ => ?_
    simp only [go_sem, seval]
    repeat with_reducible refine and_bar (by kernel_rfl) ?_
    refine hZ _ ?_
    refine RX2_g rfl fun Z hZ => ?_
    simp only [go_sem, seval]
    refine hZ _ ?_
    refine RX2_g rfl fun Z hZ => ?_
    simp only [go_sem, seval]
    refine hZ _ ?_
    refine RX2_g rfl fun Z hZ => ?_
    simp only [go_sem, seval]
    refine hZ _ ?_
    refine RX2_g rfl fun Z hZ => ?_
    simp only [go_sem, seval]
    refine hZ _ ?_
    refine RX2_g rfl fun Z hZ => ?_
    simp only [go_sem, seval]
    refine hZ _ ?_
    refine RX2_ag rfl fun Z hZ => ?_
    simp only [go_sem, seval, ha35]
    refine hZ _ ?_
    refine RX2_g rfl fun Z hZ => ?_
    simp only [go_sem, seval]
    refine hZ _ ?_
    refine RX2_g rfl fun Z hZ => ?_
    simp only [go_sem, seval]
    refine hZ _ ?_
    refine RX2_g rfl fun Z hZ => ?_
    simp only [go_sem, seval]
    refine hZ _ ?_
    refine RX2_ag rfl fun Z hZ => ?_
    simp only [go_sem, seval, ha36]
    refine hZ _ ?_
    refine RX2_g rfl fun Z hZ => ?_
    simp only [go_sem, seval, hr37]
    refine hZ _ ?_
    refine RX2_g rfl fun Z hZ => ?_
    simp only [go_sem, seval]
    refine hZ _ ?_
    refine RX2_s rfl rfl fun Z hZ => ?_
    simp only [go_sem, seval]
    refine hZ _ ?_
    refine RX2_end (by kernel_rfl) (hY _ (pp (hJ24 _ (!r33) ?_ h)))
    refine wr ?_ ?_ <;> repeat' first | rfl | constructor
  intro c30 h
  unfold ref24_turn_J3 at h
  refine Wk_cond_bool rfl (fun hc38 => ?_) (fun hc38 => ?_)
  · rw [if_pos hc38] at h
    refine Ws fun Z hZ => ?_
    simp only [go_sem, seval, hc38]
    refine hZ _ (pp (Wk_ret (pp ?_)))
    cases h
    simp only [go_sem, seval]
    exact ⟨_, rfl, RokI.h, PureI.h⟩
  rw [if_neg (ne_true_of_eq_false hc38)] at h
  refine Wk_skip (pp ?_)
  unfold ref24_turn_J4 at h
  refine Wk_seq (Ws fun Z hZ => ?_)
  simp only [go_sem, seval, hc38]
  refine hZ _ (pp (Wk_cond_nbool rfl (fun hc39 => ?_) (fun hc39 => ?_)))
  · rw [if_neg (ne_true_of_eq_false hc39)] at h
    refine Wk_seq ?_
    obtain ⟨r34, hr40, h⟩ := Option.bind_eq_some_iff.1 h
    refine Wk_regionZ fun Z hZ => ?_
    simp only [go_sem, seval, hc39, hr40]
    refine hZ _ (pp (Wk_ret (pp ?_)))
    cases h
    simp only [go_sem, seval]
    exact ⟨_, rfl, RokI.h, PureI.h⟩
  rw [if_pos hc39] at h
  refine Wk_skip (pp (Ws fun Z hZ => ?_))
  simp only [go_sem, seval, hc39]
  refine sw (RX_guard_bool rfl) (fun hc41 => ?_) (fun hc41 => ?_)
  · rw [if_neg (ne_true_of_eq_false hc41)] at h
    simp only [go_sem, seval, hc41]
    refine hZ _ (pp (Wk_ret (pp ?_)))
    cases h
    simp only [go_sem, seval]
    exact ⟨_, rfl, RokI.h, PureI.h⟩
  rw [if_pos hc41] at h
  obtain ⟨r35, hr42, h⟩ := Option.bind_eq_some_iff.1 h
  simp only [go_sem, seval, hc41, hr42]
  refine RX_guard_bool rfl (fun hc43 => ?_) (fun hc43 => ?_)
  · rw [if_pos hc43] at h
    obtain ⟨r36, hr44, h⟩ := Option.bind_eq_some_iff.1 h
    simp only [go_sem, seval, hc43, hr44]
    refine hZ _ (pp (Wk_ret (pp ?_)))
    cases h
    simp only [go_sem, seval]
    exact ⟨_, rfl, RokI.h, PureI.h⟩
  rw [if_neg (ne_true_of_eq_false hc43)] at h
  simp only [go_sem, seval, hc43]
  refine hZ _ (pp (Wk_ret (pp ?_)))
  cases h
  simp only [go_sem, seval]
  exact ⟨_, rfl, RokI.h, PureI.h⟩
def fs_ref24_turn (N : Nat) : FnS := ⟨[], true, fn2 Actor.decA (decI .i64) fun q0 q1 => (ref24_turn N q0 q1).map fun r => .val (.bool r), false⟩
attribute [go_sem] fs_ref24_turn
theorem fs_ref24_turn_ok (N : Nat) : FSOk Try.prog 58 (fs_ref24_turn N) := ok2 (fun q0 q1 r h => by
  obtain ⟨r', hr, rfl⟩ := Option.map_eq_some_iff.1 h
  exact w_ref24_turn N q0 q1 r' hr) (Actor.decA_le) (decI_le)


noncomputable def G_ref24_Valid (N d f : Nat) : Option FnS := glist [(6, 46, fs_ref14_ValidRef N), (33, 58, fs_ref24_turn N)] d f
attribute [go_sem] G_ref24_Valid
theorem w_ref24_Valid (N : Nat) (a0 : Actor) (r : Bool) (h : ref24_Valid N a0 = some r) : Con Try.prog 16 [] true [.agg (Actor.row a0)] (.val (.bool r)) := by
  refine fun_ok4 (G := (G_ref24_Valid N)) Try.func16 rfl (by decide) (by kernel_rfl) (gc 6 (fs_ref14_ValidRef_ok N) (gc 33 (fs_ref24_turn_ok N) gn)) [] mix (Nat.le_of_ble_eq_true rfl) ?_
  simp only [Try.f16]
  unfold ref24_Valid at h
  refine Ws fun Z hZ => ?_
  simp only [go_sem, seval]
  refine hZ _ (pp (Wk_seq ?_))
  apply Wk_join1 (fun (c5 : Bool) => ⟨tab 35 (updT (updT deadT 1 (.pref 1 [] 0 0)) 23 (.val (.bool c5))), (upd RZ 1 (.sl true none 4 (some 1) [Actor.row a0]))⟩)
  · intro hJ1
    obtain ⟨r6, hr2, h⟩ := Option.bind_eq_some_iff.1 h
    refine Wk_regionZ fun Z hZ => ?_
    simp only [go_sem, seval, hr2]
    refine RX_guard_nbool rfl (fun hc3 => ?_) (fun hc3 => ?_)
    · rw [if_neg (ne_true_of_eq_false hc3)] at h
      simp only [go_sem, seval, hc3]
      refine hZ _ (pp (hJ1 _ true ?_ h))
      refine wr ?_ ?_ <;> repeat' first | rfl | constructor
    rw [if_pos hc3] at h
    simp only [go_sem, seval, hc3]
    refine RX_guard_dec rfl (fun hc4 => ?_) (fun hc4 => ?_)
    · have hc4d := decide_eq_true hc4
      rw [if_pos hc4] at h
      simp only [go_sem, seval, hc4d]
      refine hZ _ (pp (hJ1 _ true ?_ h))
      refine wr ?_ ?_ <;> repeat' first | rfl | constructor
    have hc4d := decide_eq_false hc4
    rw [if_neg hc4] at h
    simp only [go_sem, seval, hc4d]
    refine RX_guard_dec rfl (fun hc5 => ?_) (fun hc5 => ?_)
    · have hc5d := decide_eq_true hc5
      rw [if_pos hc5] at h
      simp only [go_sem, seval, hc5d]
      refine hZ _ (pp (hJ1 _ true ?_ h))
      refine wr ?_ ?_ <;> repeat' first | rfl | constructor
    have hc5d := decide_eq_false hc5
    rw [if_neg hc5] at h
    simp only [go_sem, seval, hc5d]
    refine hZ _ (pp (hJ1 _ (decide (9 < ((a0.Stack.length : Nat) : Int))) ?_ h))
    refine wr ?_ ?_ <;> repeat' first | rfl | constructor
  intro c5 h
  unfold ref24_Valid_J1 at h
  refine Wk_cond_bool rfl (fun hc6 => ?_) (fun hc6 => ?_)
  · rw [if_pos hc6] at h
    refine Ws fun Z hZ => ?_
    simp only [go_sem, seval, hc6]
    refine hZ _ (pp (Wk_ret (pp ?_)))
    cases h
    simp only [go_sem, seval]
    exact ⟨_, rfl, RokI.h, PureI.h⟩
  rw [if_neg (ne_true_of_eq_false hc6)] at h
  refine Wk_skip (pp ?_)
  unfold ref24_Valid_J2 at h
  refine Wk_seq (Ws fun Z hZ => ?_)
  simp only [go_sem, seval, hc6]
  refine hZ _ (pp (Wk_block (Wk_real fun hreal8 => ?_)))
  have hl7 := hreal8.cell 1 3 (by simp only [go_sem, seval]; rfl) rfl
  rw [List.length_map] at hl7
  refine Wk_count (fun (v6 : Nat) (b : Unit) => ⟨tab 35 (updT (updT deadT 1 (.pref 1 [] 0 0)) 3 (.val (.int .i64 ((v6 : Nat) : Int)))), (upd RZ 1 (.sl true none 4 (some 1) [Actor.row a0]))⟩) () h ?_ ?_
  · refine wr ?_ ?_ <;> repeat' first | rfl | constructor
  rintro v6 ⟨⟩ _ h -
  rcases (count_cases a0.Stack.length v6).symm with ⟨hi9', hd12⟩ | ⟨hi9', hd12⟩
  · rw [hd12] at h
    simp only [ref24_Valid_L1] at h
    refine Wk_seq (Ws fun Z hZ => ?_)
    simp only [go_sem, seval, hi9']
    refine hZ _ (pp ?_)
    try simp only [Int.ofNat_lt, hi9', if_true, if_false] at h
    refine Wk_cond_f rfl (Wk_exit (pp (Ws fun Z hZ => ?_)))
    simp only [go_sem, seval]
    refine hZ _ (pp (Wk_ret (pp ?_)))
    cases h
    simp only [go_sem, seval]
    exact ⟨_, rfl, RokI.h, PureI.h⟩
  rw [hd12] at h
  simp only [ref24_Valid_L1] at h
  have hw11 := wrap_succ hi9' hl7
  refine Wk_seq (Ws fun Z hZ => ?_)
  simp only [go_sem, seval, hi9']
  refine hZ _ (pp ?_)
  try simp only [Int.ofNat_lt, hi9', if_true, if_false] at h
  refine Wk_cond_t rfl (Wk_skip (pp (Wk_seq (Wk_block (Wk_seq ?_)))))
  obtain ⟨r7, hr13, h⟩ := Option.bind_eq_some_iff.1 h
  refine Wk_regionZ fun Z hZ => ?_
  simp only [go_sem, seval, hr13]
  refine hZ _ (pp (Wk_cond_nbool rfl (fun hc14 => ?_) (fun hc14 => ?_)))
  · rw [if_neg (ne_true_of_eq_false hc14)] at h
    refine Ws fun Z hZ => ?_
    simp only [go_sem, seval, hc14]
    refine hZ _ (pp (Wk_ret (pp ?_)))
    cases h
    simp only [go_sem, seval]
    exact ⟨_, rfl, RokI.h, PureI.h⟩
  rw [if_pos hc14] at h
  refine Wk_skip (pp (Wk_regionZ fun Z hZ => ?_))
  simp only [go_sem, seval, hw11, hc14]
  refine hZ _ (pp ?_)
  first | refine ⟨(), ?_, h⟩ | refine ⟨hi9', (), ?_, h⟩
  refine wr ?_ ?_ <;> repeat' first | rfl | constructor
def fs_ref24_Valid (N : Nat) : FnS := ⟨[], true, fn1 Actor.decA fun q0 => (ref24_Valid N q0).map fun r => .val (.bool r), false⟩
attribute [go_sem] fs_ref24_Valid
theorem fs_ref24_Valid_ok (N : Nat) : FSOk Try.prog 16 (fs_ref24_Valid N) := ok1 (fun q0 r h => by
  obtain ⟨r', hr, rfl⟩ := Option.map_eq_some_iff.1 h
  exact w_ref24_Valid N q0 r' hr) (Actor.decA_le)


theorem w_ref24_top (N : Nat) (a0 : Actor) (r : Turn × Bool) (h : ref24_top N a0 = some r) : Con Try.prog 52 [] false [.agg (Actor.row a0)] (.tup [.agg (Turn.row r.1), .val (.bool r.2)]) := by
  refine fun_ok4 (G := (glist [])) Try.func52 rfl (by decide) (by kernel_rfl) gn [] mix (Nat.le_of_ble_eq_true rfl) ?_
  simp only [Try.f52]
  unfold ref24_top at h
  refine Ws fun Z hZ => ?_
  simp only [go_sem, seval]
  refine hZ _ (pp (Wk_seq (Ws fun Z hZ => ?_)))
  simp only [go_sem, seval]
  refine hZ _ (pp (Wk_cond_dec rfl (fun hc1 => ?_) (fun hc1 => ?_)))
  · have hc1d := decide_eq_true hc1
    rw [if_pos hc1] at h
    refine Ws fun Z hZ => ?_
    simp only [go_sem, seval, hc1d]
    refine hZ _ (pp (Wk_ret (pp ?_)))
    cases h
    simp only [go_sem, seval]
    exact ⟨_, rfl, RokI.h⟩
  have hc1d := decide_eq_false hc1
  rw [if_neg hc1] at h
  refine Wk_skip (pp (Wk_seq ?_))
  obtain ⟨x1, hb2, hx3, h⟩ := gx_some h
  refine Wk_regionZ fun Z hZ => ?_
  simp only [go_sem, seval, hc1d, hb2, hx3]
  refine hZ _ (pp (Wk_ret (pp ?_)))
  cases h
  simp only [go_sem, seval]
  exact ⟨_, rfl, RokI.h⟩
def fs_ref24_top (N : Nat) : FnS := ⟨[], false, fn1 Actor.decA fun q0 => (ref24_top N q0).map fun r => .tup [.agg (Turn.row r.1), .val (.bool r.2)], false⟩
attribute [go_sem] fs_ref24_top
theorem fs_ref24_top_ok (N : Nat) : FSOk Try.prog 52 (fs_ref24_top N) := ok1 (fun q0 r h => by
  obtain ⟨r', hr, rfl⟩ := Option.map_eq_some_iff.1 h
  exact w_ref24_top N q0 r' hr) (Actor.decA_le)


noncomputable def G_ref24_Nested (N d f : Nat) : Option FnS := glist [(15, 18, fs_ref24_ValidRequest N), (29, 46, fs_ref14_ValidRef N), (34, 46, fs_ref14_ValidRef N), (39, 64, fs_ref24_ValidName N), (44, 66, fs_ref24_validArgs N)] d f
attribute [go_sem] G_ref24_Nested
theorem w_ref24_Nested (N : Nat) (a0 : Turn) (a1 : Ref) (a2 : Ref) (a3 : ByteArray) (a4 : (List Value)) (r : Request × Int) (h : ref24_Nested N a0 a1 a2 a3 a4 = some r) : Con Try.prog 44 [] false [.agg (Turn.row a0), .agg [.val (.string a1.Type_), .val (.string a1.Key)], .agg [.val (.string a2.Type_), .val (.string a2.Key)], .val (.string a3), .sl false none 5 none (a4.map Value.row)] (.tup [.agg [.val (.string r.1.Client), .val (.int .i64 r.1.Seq), .sl true none 1 none (r.1.Path.map (rowI .i64)), .val (.string r.1.Target.Type_), .val (.string r.1.Target.Key), .val (.string r.1.Method), .sl false none 5 none (r.1.Args.map Value.row), .sl true none 2 none (r.1.Chain.map Ref.row), .val (.int .i64 r.1.Txn)], .val (.int .i64 r.2)]) := by
  refine fun_ok4 (G := (G_ref24_Nested N)) Try.func44 rfl (by decide) (by kernel_rfl) (gc 15 (fs_ref24_ValidRequest_ok N) (gc 29 (fs_ref14_ValidRef_ok N) (gc 34 (fs_ref14_ValidRef_ok N) (gc 39 (fs_ref24_ValidName_ok N) (gc 44 (fs_ref24_validArgs_ok N) gn))))) [] mix (Nat.le_of_ble_eq_true rfl) ?_
  simp only [Try.f44]
  unfold ref24_Nested at h
  refine Ws fun Z hZ => ?_
  simp only [go_sem, seval]
  refine hZ _ (pp (Wk_seq ?_))
  apply Wk_join1 (fun (c13 : Bool) => ⟨tab 92 (updT (updT (updT (updT (updT (updT (updT deadT 3 (.val (.string a3))) 4 (.sl false none 5 none (a4.map Value.row))) 5 (.pref 5 [] 0 0)) 6 (.pref 6 [] 0 0)) 7 (.pref 7 [] 0 0)) 10 (.pref 10 [] 0 0)) 46 (.val (.bool c13))), (upd (upd (upd (upd RZ 5 (.sl true none 30 (some 1) [Turn.row a0])) 6 (.sl true none 2 (some 1) [[.val (.string a1.Type_), .val (.string a1.Key)]])) 7 (.sl true none 2 (some 1) [[.val (.string a2.Type_), .val (.string a2.Key)]])) 10 (.sl true none 9 (some 1) [[.val (.string (⟨#[]⟩)), .val (.int .i64 0), .val (.slice none 0 0), .val (.string (⟨#[]⟩)), .val (.string (⟨#[]⟩)), .val (.string (⟨#[]⟩)), .val (.slice none 0 0), .val (.slice none 0 0), .val (.int .i64 0)]]))⟩)
  · intro hJ1
    obtain ⟨r14, hr2, h⟩ := Option.bind_eq_some_iff.1 h
    refine Wk_regionZ fun Z hZ => ?_
    simp only [go_sem, seval, hr2]
    refine RX_guard_nbool rfl (fun hc3 => ?_) (fun hc3 => ?_)
    · rw [if_neg (ne_true_of_eq_false hc3)] at h
      simp only [go_sem, seval, hc3]
      refine hZ _ (pp (hJ1 _ true ?_ h))
      refine wr ?_ ?_ <;> repeat' first | rfl | constructor
    rw [if_pos hc3] at h
    simp only [go_sem, seval, hc3]
    refine RX_guard_dec rfl (fun hc4 => ?_) (fun hc4 => ?_)
    · have hc4d := decide_eq_true hc4
      rw [if_pos hc4] at h
      simp only [go_sem, seval, hc4d]
      refine hZ _ (pp (hJ1 _ true ?_ h))
      refine wr ?_ ?_ <;> repeat' first | rfl | constructor
    have hc4d := decide_eq_false hc4
    rw [if_neg hc4] at h
    simp only [go_sem, seval, hc4d]
    refine RX_guard_dec rfl (fun hc5 => ?_) (fun hc5 => ?_)
    · have hc5d := decide_eq_true hc5
      rw [if_pos hc5] at h
      simp only [go_sem, seval, hc5d]
      refine hZ _ (pp (hJ1 _ true ?_ h))
      refine wr ?_ ?_ <;> repeat' first | rfl | constructor
    have hc5d := decide_eq_false hc5
    rw [if_neg hc5] at h
    obtain ⟨r15, hr6, h⟩ := Option.bind_eq_some_iff.1 h
    simp only [go_sem, seval, hc5d, hr6]
    refine RX_guard_nbool rfl (fun hc7 => ?_) (fun hc7 => ?_)
    · rw [if_neg (ne_true_of_eq_false hc7)] at h
      simp only [go_sem, seval, hc7]
      refine hZ _ (pp (hJ1 _ true ?_ h))
      refine wr ?_ ?_ <;> repeat' first | rfl | constructor
    rw [if_pos hc7] at h
    obtain ⟨r16, hr8, h⟩ := Option.bind_eq_some_iff.1 h
    simp only [go_sem, seval, hc7, hr8]
    refine RX_guard_nbool rfl (fun hc9 => ?_) (fun hc9 => ?_)
    · rw [if_neg (ne_true_of_eq_false hc9)] at h
      simp only [go_sem, seval, hc9]
      refine hZ _ (pp (hJ1 _ true ?_ h))
      refine wr ?_ ?_ <;> repeat' first | rfl | constructor
    rw [if_pos hc9] at h
    obtain ⟨r17, hr10, h⟩ := Option.bind_eq_some_iff.1 h
    simp only [go_sem, seval, hc9, hr10]
    refine RX_guard_nbool rfl (fun hc11 => ?_) (fun hc11 => ?_)
    · rw [if_neg (ne_true_of_eq_false hc11)] at h
      simp only [go_sem, seval, hc11]
      refine hZ _ (pp (hJ1 _ true ?_ h))
      refine wr ?_ ?_ <;> repeat' first | rfl | constructor
    rw [if_pos hc11] at h
    obtain ⟨r18, hr12, h⟩ := Option.bind_eq_some_iff.1 h
    simp only [go_sem, seval, hc11, hr12]
    refine hZ _ (pp (hJ1 _ (!r18) ?_ h))
    refine wr ?_ ?_ <;> repeat' first | rfl | constructor
  intro c13 h
  unfold ref24_Nested_J1 at h
  refine Wk_cond_bool rfl (fun hc13 => ?_) (fun hc13 => ?_)
  · rw [if_pos hc13] at h
    refine Ws fun Z hZ => ?_
    simp only [go_sem, seval, hc13]
    refine hZ _ (pp (Wk_ret (pp ?_)))
    cases h
    simp only [go_sem, seval]
    exact ⟨_, rfl, RokI.h⟩
  rw [if_neg (ne_true_of_eq_false hc13)] at h
  refine Wk_skip (pp ?_)
  unfold ref24_Nested_J4 at h
  refine Wk_seq ?_
  apply Wk_join1 (fun (c21 : Bool) => ⟨tab 92 (updT (updT (updT (updT (updT (updT (updT deadT 3 (.val (.string a3))) 4 (.sl false none 5 none (a4.map Value.row))) 5 (.pref 5 [] 0 0)) 6 (.pref 6 [] 0 0)) 7 (.pref 7 [] 0 0)) 10 (.pref 10 [] 0 0)) 57 (.val (.bool c21))), (upd (upd (upd (upd RZ 5 (.sl true none 30 (some 1) [Turn.row a0])) 6 (.sl true none 2 (some 1) [[.val (.string a1.Type_), .val (.string a1.Key)]])) 7 (.sl true none 2 (some 1) [[.val (.string a2.Type_), .val (.string a2.Key)]])) 10 (.sl true none 9 (some 1) [[.val (.string (⟨#[]⟩)), .val (.int .i64 0), .val (.slice none 0 0), .val (.string (⟨#[]⟩)), .val (.string (⟨#[]⟩)), .val (.string (⟨#[]⟩)), .val (.slice none 0 0), .val (.slice none 0 0), .val (.int .i64 0)]]))⟩)
  · intro hJ14
    refine Wk_regionZ fun Z hZ => ?_
    simp only [go_sem, seval, hc13]
    refine RX_guard_dec rfl (fun hc15 => ?_) (fun hc15 => ?_)
    · have hc15d := decide_eq_true hc15
      rw [if_pos hc15] at h
      simp only [go_sem, seval, hc15d]
      refine hZ _ (pp (hJ14 _ true ?_ h))
      refine wr ?_ ?_ <;> repeat' first | rfl | constructor
    have hc15d := decide_eq_false hc15
    rw [if_neg hc15] at h
    simp only [go_sem, seval, hc15d]
    refine hZ _ (pp (hJ14 _ (decide (a0.Calls = 1099511627776)) ?_ h))
    refine wr ?_ ?_ <;> repeat' first | rfl | constructor
  intro c21 h
  unfold ref24_Nested_J2 at h
  refine Wk_cond_bool rfl (fun hc16 => ?_) (fun hc16 => ?_)
  · rw [if_pos hc16] at h
    refine Ws fun Z hZ => ?_
    simp only [go_sem, seval, hc16]
    refine hZ _ (pp (Wk_ret (pp ?_)))
    cases h
    simp only [go_sem, seval]
    exact ⟨_, rfl, RokI.h⟩
  rw [if_neg (ne_true_of_eq_false hc16)] at h
  refine Wk_skip (pp ?_)
  unfold ref24_Nested_J3 at h
  refine Ws fun Z hZ => ?_
  simp only [go_sem, seval, hc16]
  refine hZ _ (pp (Wk_seq ?_))
  first | obtain ⟨ha17, h⟩ := apn_some h | (obtain ⟨ha17, h⟩ := apx_some h; rw [List.nil_append] at h)
  simp only [Nat.reduceAdd] at ha17
  obtain ⟨ha18, h⟩ := apx_some h
  simp only [List.length_cons, List.length_nil, Nat.zero_add, Nat.reduceAdd] at ha18
  refine Wk_regionH fun Y hY => ?_
  refine RX2_s rfl rfl fun Z hZ => ?_
  simp only [go_sem, seval]
  repeat with_reducible refine and_bar (by kernel_rfl) ?_
  refine hZ _ ?_
  refine RX2_s rfl rfl fun Z hZ => ?_
  simp only [go_sem, seval]
  refine hZ _ ?_
  refine RX2_s rfl rfl fun Z hZ => ?_
  simp only [go_sem, seval]
  refine hZ _ ?_
  refine RX2_s rfl rfl fun Z hZ => ?_
  simp only [go_sem, seval]
  refine hZ _ ?_
  refine RX2_a fun Z hZ => ?_
  simp only [go_sem, seval, ha17]
  refine hZ _ ?_
  refine RX2_s rfl rfl fun Z hZ => ?_
  simp only [go_sem, seval]
  refine hZ _ ?_
  refine RX2_s rfl rfl fun Z hZ => ?_
  simp only [go_sem, seval]
  refine hZ _ ?_
  refine RX2_s rfl rfl fun Z hZ => ?_
  simp only [go_sem, seval]
  refine hZ _ ?_
  refine RX2_a fun Z hZ => ?_
  simp only [go_sem, seval, ha18]
  refine hZ _ ?_
  refine RX2_s rfl rfl fun Z hZ => ?_
  simp only [go_sem, seval]
  refine hZ _ ?_
  refine RX2_w fun Z hZ => ?_
  simp only [go_sem, seval]
  refine hZ _ ?_
  refine RX2_end (by kernel_rfl) (hY _ (pp (Wk_seq ?_)))
  first | obtain ⟨ha19, h⟩ := apn_some h | (obtain ⟨ha19, h⟩ := apx_some h; rw [List.nil_append] at h)
  simp only [Nat.reduceAdd] at ha19
  obtain ⟨ha20, h⟩ := apx_some h
  simp only [List.length_cons, List.length_nil, Nat.zero_add, Nat.reduceAdd] at ha20
  refine Wk_regionH fun Y hY => ?_
  refine RX2_s rfl rfl fun Z hZ => ?_
  simp only [go_sem, seval]
  repeat with_reducible refine and_bar (by kernel_rfl) ?_
  refine hZ _ ?_
  refine RX2_s rfl rfl fun Z hZ => ?_
  simp only [go_sem, seval]
  refine hZ _ ?_
  refine RX2_s rfl rfl fun Z hZ => ?_
  simp only [go_sem, seval]
  refine hZ _ ?_
  refine RX2_s rfl rfl fun Z hZ => ?_
  simp only [go_sem, seval]
  refine hZ _ ?_
  refine RX2_a fun Z hZ => ?_
  simp only [go_sem, seval, ha19]
  refine hZ _ ?_
  refine RX2_s rfl rfl fun Z hZ => ?_
  simp only [go_sem, seval]
  refine hZ _ ?_
  refine RX2_s rfl rfl fun Z hZ => ?_
  simp only [go_sem, seval]
  refine hZ _ ?_
  refine RX2_a fun Z hZ => ?_
  simp only [go_sem, seval, ha20]
  refine hZ _ ?_
  refine RX2_s rfl rfl fun Z hZ => ?_
  simp only [go_sem, seval]
  refine hZ _ ?_
  refine RX2_w fun Z hZ => ?_
  simp only [go_sem, seval]
  refine hZ _ ?_
  refine RX2_end (by kernel_rfl) (hY _ (pp (Ws fun Z hZ => ?_)))
  simp only [go_sem, seval]
  refine hZ _ (pp (Wk_ret (pp ?_)))
  cases h
  simp only [go_sem, seval]
  exact ⟨_, rfl, RokI.h⟩
def fs_ref24_Nested (N : Nat) : FnS := ⟨[], false, fn5 Turn.decA Ref.decA Ref.decA decS (decL 5 Value.dec) fun q0 q1 q2 q3 q4 => (ref24_Nested N q0 q1 q2 q3 q4).map fun r => .tup [.agg (Request.row r.1), .val (.int .i64 r.2)], false⟩
attribute [go_sem] fs_ref24_Nested
theorem fs_ref24_Nested_ok (N : Nat) : FSOk Try.prog 44 (fs_ref24_Nested N) := ok5 (fun q0 q1 q2 q3 q4 r h => by
  obtain ⟨r', hr, rfl⟩ := Option.map_eq_some_iff.1 h
  exact (w_ref24_Nested N q0 q1 q2 q3 q4 r' hr).res (by (try simp only [go_sem]); exact RokI.h)) (Turn.decA_le) (Ref.decA_le) (Ref.decA_le) (decS_le) (fun h => decL_le Value.dec_le h)

def fso_ref24_Nested (N : Nat) : FnS := ⟨[], false, fn5 Turn.decA Ref.decA Ref.decA decS (decL 5 Value.dec) fun q0 q1 q2 q3 q4 => (ref24_Nested N q0 q1 q2 q3 q4).map fun r => .tup [.agg [.val (.string r.1.Client), .val (.int .i64 r.1.Seq), .sl true none 1 none (r.1.Path.map (rowI .i64)), .val (.string r.1.Target.Type_), .val (.string r.1.Target.Key), .val (.string r.1.Method), .sl false none 5 none (r.1.Args.map Value.row), .sl true none 2 none (r.1.Chain.map Ref.row), .val (.int .i64 r.1.Txn)], .val (.int .i64 r.2)], false⟩
attribute [go_sem] fso_ref24_Nested
theorem fso_ref24_Nested_ok (N : Nat) : FSOk Try.prog 44 (fso_ref24_Nested N) := ok5 (fun q0 q1 q2 q3 q4 r h => by
  obtain ⟨r', hr, rfl⟩ := Option.map_eq_some_iff.1 h
  exact w_ref24_Nested N q0 q1 q2 q3 q4 r' hr) (Turn.decA_le) (Ref.decA_le) (Ref.decA_le) (decS_le) (fun h => decL_le Value.dec_le h)


theorem w_ref24_with (N : Nat) (a0 : Actor) (a1 : Turn) (r : Actor × Int) (h : ref24_with N a0 a1 = some r) : Con Try.prog 79 [] false [.agg (Actor.row a0), .agg (Turn.row a1)] (.tup [.agg [.val (.string r.1.Self.Type_), .val (.string r.1.Self.Key), .val (.int .i64 r.1.Index), .sl true none 30 none (r.1.Stack.map Turn.row)], .val (.int .i64 r.2)]) := by
  refine fun_ok4 (G := (glist [])) Try.func79 rfl (by decide) (by kernel_rfl) gn [] mix (Nat.le_of_ble_eq_true rfl) ?_
  simp only [Try.f79]
  unfold ref24_with at h
  refine Ws fun Z hZ => ?_
  simp only [go_sem, seval]
  refine hZ _ (pp (Wk_seq (Ws fun Z hZ => ?_)))
  simp only [go_sem, seval]
  refine hZ _ (pp (Wk_cond_dec rfl (fun hc1 => ?_) (fun hc1 => ?_)))
  · have hc1d := decide_eq_true hc1
    rw [if_pos hc1] at h
    refine Ws fun Z hZ => ?_
    simp only [go_sem, seval, hc1d]
    refine hZ _ (pp (Wk_ret (pp ?_)))
    cases h
    simp only [go_sem, seval]
    exact ⟨_, rfl, RokI.h⟩
  have hc1d := decide_eq_false hc1
  rw [if_neg hc1] at h
  refine Wk_skip (pp (Wk_seq ?_))
  obtain ⟨hs2, h⟩ := slx_some h
  try simp only [Int.toNat_zero, Nat.sub_zero, List.drop_zero] at hs2 h
  first | obtain ⟨ha3, h⟩ := apn_some h | (obtain ⟨ha3, h⟩ := apx_some h; rw [List.nil_append] at h)
  simp only [Nat.reduceAdd] at ha3
  refine Wk_regionZ fun Z hZ => ?_
  simp only [go_sem, seval, hc1d, hs2, Nat.sub_zero, Nat.zero_le, ha3]
  refine hZ _ (pp (Wk_seq ?_))
  obtain ⟨ha4, h⟩ := apx_some h
  simp only [List.length_cons, List.length_nil, Nat.zero_add, Nat.reduceAdd] at ha4
  refine Wk_regionH fun Y hY => ?_
  refine RX2_s rfl rfl fun Z hZ => ?_
  simp only [go_sem, seval]
  repeat with_reducible refine and_bar (by kernel_rfl) ?_
  refine hZ _ ?_
  refine RX2_s rfl rfl fun Z hZ => ?_
  simp only [go_sem, seval]
  refine hZ _ ?_
  refine RX2_s rfl rfl fun Z hZ => ?_
  simp only [go_sem, seval]
  refine hZ _ ?_
  refine RX2_s rfl rfl fun Z hZ => ?_
  simp only [go_sem, seval]
  refine hZ _ ?_
  refine RX2_s rfl rfl fun Z hZ => ?_
  simp only [go_sem, seval]
  refine hZ _ ?_
  refine RX2_s rfl rfl fun Z hZ => ?_
  simp only [go_sem, seval]
  refine hZ _ ?_
  refine RX2_s rfl rfl fun Z hZ => ?_
  simp only [go_sem, seval]
  refine hZ _ ?_
  refine RX2_s rfl rfl fun Z hZ => ?_
  simp only [go_sem, seval]
  refine hZ _ ?_
  refine RX2_a fun Z hZ => ?_
  simp only [go_sem, seval, ha4]
  refine hZ _ ?_
  refine RX2_s rfl rfl fun Z hZ => ?_
  simp only [go_sem, seval]
  refine hZ _ ?_
  refine RX2_w fun Z hZ => ?_
  simp only [go_sem, seval]
  refine hZ _ ?_
  refine RX2_s rfl rfl fun Z hZ => ?_
  simp only [go_sem, seval]
  refine hZ _ ?_
  refine RX2_end (by kernel_rfl) (hY _ (pp (Wk_ret (pp ?_))))
  cases h
  simp only [go_sem, seval]
  exact ⟨_, rfl, RokI.h⟩
def fs_ref24_with (N : Nat) : FnS := ⟨[], false, fn2 Actor.decA Turn.decA fun q0 q1 => (ref24_with N q0 q1).map fun r => .tup [.agg (Actor.row r.1), .val (.int .i64 r.2)], false⟩
attribute [go_sem] fs_ref24_with
theorem fs_ref24_with_ok (N : Nat) : FSOk Try.prog 79 (fs_ref24_with N) := ok2 (fun q0 q1 r h => by
  obtain ⟨r', hr, rfl⟩ := Option.map_eq_some_iff.1 h
  exact (w_ref24_with N q0 q1 r' hr).res (by (try simp only [go_sem]); exact RokI.h)) (Actor.decA_le) (Turn.decA_le)

def fso_ref24_with (N : Nat) : FnS := ⟨[], false, fn2 Actor.decA Turn.decA fun q0 q1 => (ref24_with N q0 q1).map fun r => .tup [.agg [.val (.string r.1.Self.Type_), .val (.string r.1.Self.Key), .val (.int .i64 r.1.Index), .sl true none 30 none (r.1.Stack.map Turn.row)], .val (.int .i64 r.2)], false⟩
attribute [go_sem] fso_ref24_with
theorem fso_ref24_with_ok (N : Nat) : FSOk Try.prog 79 (fso_ref24_with N) := ok2 (fun q0 q1 r h => by
  obtain ⟨r', hr, rfl⟩ := Option.map_eq_some_iff.1 h
  exact w_ref24_with N q0 q1 r' hr) (Actor.decA_le) (Turn.decA_le)


noncomputable def G_ref24_Suspend (N d f : Nat) : Option FnS := glist [(15, 16, fs_ref24_Valid N), (19, 46, fs_ref14_ValidRef N), (24, 64, fs_ref24_ValidName N), (29, 66, fs_ref24_validArgs N), (35, 52, fs_ref24_top N), (42, 53, fs_ref24_running N), (53, 44, fs_ref24_Nested N), (68, 79, fs_ref24_with N)] d f
attribute [go_sem] G_ref24_Suspend
theorem w_ref24_Suspend (N : Nat) (a0 : Actor) (a1 : Ref) (a2 : ByteArray) (a3 : (List Value)) (r : Actor × Int) (h : ref24_Suspend N a0 a1 a2 a3 = some r) : Con Try.prog 36 [] false [.agg (Actor.row a0), .agg [.val (.string a1.Type_), .val (.string a1.Key)], .val (.string a2), .sl false none 5 none (a3.map Value.row)] (.tup [.agg (Actor.row r.1), .val (.int .i64 r.2)]) := by
  refine fun_ok4 (G := (G_ref24_Suspend N)) Try.func36 rfl (by decide) (by kernel_rfl) (gc 15 (fs_ref24_Valid_ok N) (gc 19 (fs_ref14_ValidRef_ok N) (gc 24 (fs_ref24_ValidName_ok N) (gc 29 (fs_ref24_validArgs_ok N) (gc 35 (fs_ref24_top_ok N) (gc 42 (fs_ref24_running_ok N) (gc 53 (fs_ref24_Nested_ok N) (gc 68 (fs_ref24_with_ok N) gn)))))))) [] mix (Nat.le_of_ble_eq_true rfl) ?_
  simp only [Try.f36]
  unfold ref24_Suspend at h
  refine Ws fun Z hZ => ?_
  simp only [go_sem, seval]
  refine hZ _ (pp (Wk_seq ?_))
  apply Wk_join1 (fun (c11 : Bool) => ⟨tab 71 (updT (updT (updT (updT (updT (updT deadT 2 (.val (.string a2))) 3 (.sl false none 5 none (a3.map Value.row))) 4 (.pref 4 [] 0 0)) 5 (.pref 5 [] 0 0)) 8 (.pref 8 [] 0 0)) 31 (.val (.bool c11))), (upd (upd (upd RZ 4 (.sl true none 4 (some 1) [Actor.row a0])) 5 (.sl true none 2 (some 1) [[.val (.string a1.Type_), .val (.string a1.Key)]])) 8 (.sl true none 4 (some 1) [[.val (.string (⟨#[]⟩)), .val (.string (⟨#[]⟩)), .val (.int .i64 0), .val (.slice none 0 0)]]))⟩)
  · intro hJ1
    obtain ⟨r12, hr2, h⟩ := Option.bind_eq_some_iff.1 h
    refine Wk_regionZ fun Z hZ => ?_
    simp only [go_sem, seval, hr2]
    refine RX_guard_nbool rfl (fun hc3 => ?_) (fun hc3 => ?_)
    · rw [if_neg (ne_true_of_eq_false hc3)] at h
      simp only [go_sem, seval, hc3]
      refine hZ _ (pp (hJ1 _ true ?_ h))
      refine wr ?_ ?_ <;> repeat' first | rfl | constructor
    rw [if_pos hc3] at h
    obtain ⟨r13, hr4, h⟩ := Option.bind_eq_some_iff.1 h
    simp only [go_sem, seval, hc3, hr4]
    refine RX_guard_nbool rfl (fun hc5 => ?_) (fun hc5 => ?_)
    · rw [if_neg (ne_true_of_eq_false hc5)] at h
      simp only [go_sem, seval, hc5]
      refine hZ _ (pp (hJ1 _ true ?_ h))
      refine wr ?_ ?_ <;> repeat' first | rfl | constructor
    rw [if_pos hc5] at h
    obtain ⟨r14, hr6, h⟩ := Option.bind_eq_some_iff.1 h
    simp only [go_sem, seval, hc5, hr6]
    refine RX_guard_nbool rfl (fun hc7 => ?_) (fun hc7 => ?_)
    · rw [if_neg (ne_true_of_eq_false hc7)] at h
      simp only [go_sem, seval, hc7]
      refine hZ _ (pp (hJ1 _ true ?_ h))
      refine wr ?_ ?_ <;> repeat' first | rfl | constructor
    rw [if_pos hc7] at h
    obtain ⟨r15, hr8, h⟩ := Option.bind_eq_some_iff.1 h
    simp only [go_sem, seval, hc7, hr8]
    refine hZ _ (pp (hJ1 _ (!r15) ?_ h))
    refine wr ?_ ?_ <;> repeat' first | rfl | constructor
  intro c11 h
  unfold ref24_Suspend_J1 at h
  refine Wk_cond_bool rfl (fun hc9 => ?_) (fun hc9 => ?_)
  · rw [if_pos hc9] at h
    refine Ws fun Z hZ => ?_
    simp only [go_sem, seval, hc9]
    refine hZ _ (pp (Wk_ret (pp ?_)))
    cases h
    simp only [go_sem, seval]
    exact ⟨_, rfl, RokI.h⟩
  rw [if_neg (ne_true_of_eq_false hc9)] at h
  refine Wk_skip (pp ?_)
  unfold ref24_Suspend_J4 at h
  refine Wk_seq ?_
  obtain ⟨r16, hr10, h⟩ := Option.bind_eq_some_iff.1 h
  refine Wk_regionZ fun Z hZ => ?_
  simp only [go_sem, seval, hc9, hr10]
  refine hZ _ (pp (Wk_seq ?_))
  apply Wk_join1 (fun (c21 : Bool) => ⟨tab 71 (updT (updT (updT (updT (updT (updT (updT deadT 2 (.val (.string a2))) 3 (.sl false none 5 none (a3.map Value.row))) 4 (.pref 4 [] 0 0)) 5 (.pref 5 [] 0 0)) 8 (.pref 8 [] 0 0)) 10 (.pref 10 [] 0 0)) 44 (.val (.bool c21))), (upd (upd (upd (upd RZ 4 (.sl true none 4 (some 1) [Actor.row a0])) 5 (.sl true none 2 (some 1) [[.val (.string a1.Type_), .val (.string a1.Key)]])) 8 (.sl true none 4 (some 1) [[.val (.string (⟨#[]⟩)), .val (.string (⟨#[]⟩)), .val (.int .i64 0), .val (.slice none 0 0)]])) 10 (.sl true none 30 (some 1) [Turn.row r16.1]))⟩)
  · intro hJ11
    refine Wk_regionZ fun Z hZ => ?_
    simp only [go_sem, seval]
    refine RX_guard_nbool rfl (fun hc12 => ?_) (fun hc12 => ?_)
    · rw [if_neg (ne_true_of_eq_false hc12)] at h
      simp only [go_sem, seval, hc12]
      refine hZ _ (pp (hJ11 _ true ?_ h))
      refine wr ?_ ?_ <;> repeat' first | rfl | constructor
    rw [if_pos hc12] at h
    obtain ⟨r22, hr13, h⟩ := Option.bind_eq_some_iff.1 h
    simp only [go_sem, seval, hc12, hr13]
    refine hZ _ (pp (hJ11 _ (!r22) ?_ h))
    refine wr ?_ ?_ <;> repeat' first | rfl | constructor
  intro c21 h
  unfold ref24_Suspend_J2 at h
  refine Wk_cond_bool rfl (fun hc14 => ?_) (fun hc14 => ?_)
  · rw [if_pos hc14] at h
    refine Ws fun Z hZ => ?_
    simp only [go_sem, seval, hc14]
    refine hZ _ (pp (Wk_ret (pp ?_)))
    cases h
    simp only [go_sem, seval]
    exact ⟨_, rfl, RokI.h⟩
  rw [if_neg (ne_true_of_eq_false hc14)] at h
  refine Wk_skip (pp ?_)
  unfold ref24_Suspend_J3 at h
  refine Wk_seq ?_
  obtain ⟨r23, hr15, h⟩ := Option.bind_eq_some_iff.1 h
  refine Wk_regionZ fun Z hZ => ?_
  simp only [go_sem, seval, hc14, hr15]
  refine hZ _ (pp (Wk_seq (Ws fun Z hZ => ?_)))
  simp only [go_sem, seval]
  refine hZ _ (pp (Wk_cond_ndec rfl (fun hc16 => ?_) (fun hc16 => ?_)))
  · have hc16d := decide_eq_false hc16
    rw [if_neg hc16] at h
    refine Ws fun Z hZ => ?_
    simp only [go_sem, seval, hc16d]
    refine hZ _ (pp (Wk_ret (pp ?_)))
    cases h
    simp only [go_sem, seval]
    exact ⟨_, rfl, RokI.h⟩
  have hc16d := decide_eq_true hc16
  rw [if_pos hc16] at h
  refine Wk_skip (pp (Ws fun Z hZ => ?_))
  simp only [go_sem, seval, hc16d]
  refine hZ _ (pp (Ws fun Z hZ => ?_))
  simp only [go_sem, seval]
  refine hZ _ (pp (Wk_seq ?_))
  obtain ⟨r24, hr17, h⟩ := Option.bind_eq_some_iff.1 h
  refine Wk_regionZ fun Z hZ => ?_
  simp only [go_sem, seval, hr17]
  refine hZ _ (pp (Wk_ret (pp ?_)))
  cases h
  simp only [go_sem, seval]
  exact ⟨_, rfl, RokI.h⟩
def fs_ref24_Suspend (N : Nat) : FnS := ⟨[], false, fn4 Actor.decA Ref.decA decS (decL 5 Value.dec) fun q0 q1 q2 q3 => (ref24_Suspend N q0 q1 q2 q3).map fun r => .tup [.agg (Actor.row r.1), .val (.int .i64 r.2)], false⟩
attribute [go_sem] fs_ref24_Suspend
theorem fs_ref24_Suspend_ok (N : Nat) : FSOk Try.prog 36 (fs_ref24_Suspend N) := ok4 (fun q0 q1 q2 q3 r h => by
  obtain ⟨r', hr, rfl⟩ := Option.map_eq_some_iff.1 h
  exact w_ref24_Suspend N q0 q1 q2 q3 r' hr) (Actor.decA_le) (Ref.decA_le) (decS_le) (fun h => decL_le Value.dec_le h)


noncomputable def G_ref24_StartCall (N d f : Nat) : Option FnS := glist [(13, 16, fs_ref24_Valid N), (18, 52, fs_ref24_top N), (25, 53, fs_ref24_running N), (33, 22, fs_ref24_SameID N), (43, 79, fs_ref24_with N)] d f
attribute [go_sem] G_ref24_StartCall
theorem w_ref24_StartCall (N : Nat) (a0 : Actor) (a1 : ByteArray) (a2 : Int) (a3 : (List Int)) (r : Actor × Int) (h : ref24_StartCall N a0 a1 a2 a3 = some r) : Con Try.prog 38 [] false [.agg (Actor.row a0), .val (.string a1), .val (.int .i64 a2), .sl false none 1 none (a3.map (rowI .i64))] (.tup [.agg (Actor.row r.1), .val (.int .i64 r.2)]) := by
  refine fun_ok4 (G := (G_ref24_StartCall N)) Try.func38 rfl (by decide) (by kernel_rfl) (gc 13 (fs_ref24_Valid_ok N) (gc 18 (fs_ref24_top_ok N) (gc 25 (fs_ref24_running_ok N) (gc 33 (fs_ref24_SameID_ok N) (gc 43 (fs_ref24_with_ok N) gn))))) [] mix (Nat.le_of_ble_eq_true rfl) ?_
  simp only [Try.f38]
  unfold ref24_StartCall at h
  refine Ws fun Z hZ => ?_
  simp only [go_sem, seval]
  refine hZ _ (pp (Wk_seq (Wk_seq ?_)))
  obtain ⟨r1, hr1, h⟩ := Option.bind_eq_some_iff.1 h
  refine Wk_regionZ fun Z hZ => ?_
  simp only [go_sem, seval, hr1]
  refine hZ _ (pp (Wk_cond_nbool rfl (fun hc2 => ?_) (fun hc2 => ?_)))
  · rw [if_neg (ne_true_of_eq_false hc2)] at h
    refine Ws fun Z hZ => ?_
    simp only [go_sem, seval, hc2]
    refine hZ _ (pp (Wk_ret (pp ?_)))
    cases h
    simp only [go_sem, seval]
    exact ⟨_, rfl, RokI.h⟩
  rw [if_pos hc2] at h
  refine Wk_skip (pp (Wk_seq ?_))
  obtain ⟨r2, hr3, h⟩ := Option.bind_eq_some_iff.1 h
  refine Wk_regionZ fun Z hZ => ?_
  simp only [go_sem, seval, hc2, hr3]
  refine hZ _ (pp (Wk_seq ?_))
  apply Wk_join1 (fun (c9 : Bool) => ⟨tab 46 (updT (updT (updT (updT deadT 4 (.pref 4 [] 0 0)) 8 (.pref 8 [] 0 0)) 10 (.pref 10 [] 0 0)) 35 (.val (.bool c9))), (upd (upd (upd RZ 4 (.sl true none 4 (some 1) [Actor.row a0])) 8 (.sl true none 4 (some 1) [[.val (.string (⟨#[]⟩)), .val (.string (⟨#[]⟩)), .val (.int .i64 0), .val (.slice none 0 0)]])) 10 (.sl true none 30 (some 1) [Turn.row r2.1]))⟩)
  · intro hJ4
    refine Wk_regionZ fun Z hZ => ?_
    simp only [go_sem, seval]
    refine RX_guard_nbool rfl (fun hc5 => ?_) (fun hc5 => ?_)
    · rw [if_neg (ne_true_of_eq_false hc5)] at h
      simp only [go_sem, seval, hc5]
      refine hZ _ (pp (hJ4 _ true ?_ h))
      refine wr ?_ ?_ <;> repeat' first | rfl | constructor
    rw [if_pos hc5] at h
    obtain ⟨r10, hr6, h⟩ := Option.bind_eq_some_iff.1 h
    simp only [go_sem, seval, hc5, hr6]
    refine RX_guard_bool rfl (fun hc7 => ?_) (fun hc7 => ?_)
    · rw [if_pos hc7] at h
      simp only [go_sem, seval, hc7]
      refine hZ _ (pp (hJ4 _ true ?_ h))
      refine wr ?_ ?_ <;> repeat' first | rfl | constructor
    rw [if_neg (ne_true_of_eq_false hc7)] at h
    obtain ⟨r11, hr8, h⟩ := Option.bind_eq_some_iff.1 h
    simp only [go_sem, seval, hc7, hr8]
    refine hZ _ (pp (hJ4 _ (!r11) ?_ h))
    refine wr ?_ ?_ <;> repeat' first | rfl | constructor
  intro c9 h
  unfold ref24_StartCall_J1 at h
  refine Wk_cond_bool rfl (fun hc9 => ?_) (fun hc9 => ?_)
  · rw [if_pos hc9] at h
    refine Ws fun Z hZ => ?_
    simp only [go_sem, seval, hc9]
    refine hZ _ (pp (Wk_ret (pp ?_)))
    cases h
    simp only [go_sem, seval]
    exact ⟨_, rfl, RokI.h⟩
  rw [if_neg (ne_true_of_eq_false hc9)] at h
  refine Wk_skip (pp ?_)
  unfold ref24_StartCall_J2 at h
  refine Wk_seq (Ws fun Z hZ => ?_)
  simp only [go_sem, seval, hc9]
  refine hZ _ (pp (Wk_cond_bool rfl (fun hc10 => ?_) (fun hc10 => ?_)))
  · rw [if_pos hc10] at h
    refine Ws fun Z hZ => ?_
    simp only [go_sem, seval, hc10]
    refine hZ _ (pp (Wk_ret (pp ?_)))
    cases h
    simp only [go_sem, seval]
    exact ⟨_, rfl, RokI.h⟩
  rw [if_neg (ne_true_of_eq_false hc10)] at h
  refine Wk_skip (pp (Ws fun Z hZ => ?_))
  simp only [go_sem, seval, hc10]
  refine hZ _ (pp (Wk_seq ?_))
  obtain ⟨r12, hr11, h⟩ := Option.bind_eq_some_iff.1 h
  refine Wk_regionZ fun Z hZ => ?_
  simp only [go_sem, seval, hr11]
  refine hZ _ (pp (Wk_ret (pp ?_)))
  cases h
  simp only [go_sem, seval]
  exact ⟨_, rfl, RokI.h⟩
def fs_ref24_StartCall (N : Nat) : FnS := ⟨[], false, fn4 Actor.decA decS (decI .i64) (decL 1 (dec1 (decI .i64))) fun q0 q1 q2 q3 => (ref24_StartCall N q0 q1 q2 q3).map fun r => .tup [.agg (Actor.row r.1), .val (.int .i64 r.2)], false⟩
attribute [go_sem] fs_ref24_StartCall
theorem fs_ref24_StartCall_ok (N : Nat) : FSOk Try.prog 38 (fs_ref24_StartCall N) := ok4 (fun q0 q1 q2 q3 r h => by
  obtain ⟨r', hr, rfl⟩ := Option.map_eq_some_iff.1 h
  exact w_ref24_StartCall N q0 q1 q2 q3 r' hr) (Actor.decA_le) (decS_le) (decI_le) (fun h => decL_le (decI1_le .i64) h)


noncomputable def G_ref24_Answer (N d f : Nat) : Option FnS := glist [(9, 16, fs_ref24_Valid N), (13, 20, fs_ref24_ValidReply N), (19, 52, fs_ref24_top N), (26, 53, fs_ref24_running N), (37, 22, fs_ref24_SameID N), (54, 79, fs_ref24_with N)] d f
attribute [go_sem] G_ref24_Answer
theorem w_ref24_Answer (N : Nat) (a0 : Actor) (a1 : Reply) (r : Actor × Int) (h : ref24_Answer N a0 a1 = some r) : Con Try.prog 40 [] false [.agg (Actor.row a0), .agg (Reply.row a1)] (.tup [.agg (Actor.row r.1), .val (.int .i64 r.2)]) := by
  refine fun_ok4 (G := (G_ref24_Answer N)) Try.func40 rfl (by decide) (by kernel_rfl) (gc 9 (fs_ref24_Valid_ok N) (gc 13 (fs_ref24_ValidReply_ok N) (gc 19 (fs_ref24_top_ok N) (gc 26 (fs_ref24_running_ok N) (gc 37 (fs_ref24_SameID_ok N) (gc 54 (fs_ref24_with_ok N) gn)))))) [] mix (Nat.le_of_ble_eq_true rfl) ?_
  simp only [Try.f40]
  unfold ref24_Answer at h
  refine Ws fun Z hZ => ?_
  simp only [go_sem, seval]
  refine hZ _ (pp (Wk_seq ?_))
  apply Wk_join1 (fun (c7 : Bool) => ⟨tab 57 (updT (updT (updT (updT deadT 2 (.pref 2 [] 0 0)) 3 (.pref 3 [] 0 0)) 4 (.pref 4 [] 0 0)) 15 (.val (.bool c7))), (upd (upd (upd RZ 2 (.sl true none 4 (some 1) [Actor.row a0])) 3 (.sl true none 9 (some 1) [Reply.row a1])) 4 (.sl true none 4 (some 1) [[.val (.string (⟨#[]⟩)), .val (.string (⟨#[]⟩)), .val (.int .i64 0), .val (.slice none 0 0)]]))⟩)
  · intro hJ1
    obtain ⟨r8, hr2, h⟩ := Option.bind_eq_some_iff.1 h
    refine Wk_regionZ fun Z hZ => ?_
    simp only [go_sem, seval, hr2]
    refine RX_guard_nbool rfl (fun hc3 => ?_) (fun hc3 => ?_)
    · rw [if_neg (ne_true_of_eq_false hc3)] at h
      simp only [go_sem, seval, hc3]
      refine hZ _ (pp (hJ1 _ true ?_ h))
      refine wr ?_ ?_ <;> repeat' first | rfl | constructor | simp only [go_sem, seval, Bool.or_self, List.length_set, Int.natCast_zero, Int.cast_ofNat_Int, hr2, hc3]
    rw [if_pos hc3] at h
    obtain ⟨r9, hr4, h⟩ := Option.bind_eq_some_iff.1 h
    simp only [go_sem, seval, hc3, hr4]
    refine hZ _ (pp (hJ1 _ (!r9) ?_ h))
    refine wr ?_ ?_ <;> repeat' first | rfl | constructor | simp only [go_sem, seval, Bool.or_self, List.length_set, Int.natCast_zero, Int.cast_ofNat_Int, hr2, hc3, hr4]
  intro c7 h
  unfold ref24_Answer_J1 at h
  refine Wk_cond_bool rfl (fun hc5 => ?_) (fun hc5 => ?_)
  · rw [if_pos hc5] at h
    refine Ws fun Z hZ => ?_
    simp only [go_sem, seval, hc5]
    refine hZ _ (pp (Wk_ret (pp ?_)))
    cases h
    simp only [go_sem, seval]
    exact ⟨_, rfl, RokI.h⟩
  rw [if_neg (ne_true_of_eq_false hc5)] at h
  refine Wk_skip (pp ?_)
  unfold ref24_Answer_J6 at h
  refine Wk_seq ?_
  obtain ⟨r10, hr6, h⟩ := Option.bind_eq_some_iff.1 h
  refine Wk_regionZ fun Z hZ => ?_
  simp only [go_sem, seval, hc5, hr6]
  refine hZ _ (pp (Wk_seq ?_))
  apply Wk_join1 (fun (c17 : Bool) => ⟨tab 57 (updT (updT (updT (updT (updT deadT 2 (.pref 2 [] 0 0)) 3 (.pref 3 [] 0 0)) 4 (.pref 4 [] 0 0)) 6 (.pref 6 [] 0 0)) 39 (.val (.bool c17))), (upd (upd (upd (upd RZ 2 (.sl true none 4 (some 1) [Actor.row a0])) 3 (.sl true none 9 (some 1) [Reply.row a1])) 4 (.sl true none 4 (some 1) [[.val (.string (⟨#[]⟩)), .val (.string (⟨#[]⟩)), .val (.int .i64 0), .val (.slice none 0 0)]])) 6 (.sl true none 30 (some 1) [Turn.row r10.1]))⟩)
  · intro hJ7
    refine Wk_regionZ fun Z hZ => ?_
    simp only [go_sem, seval]
    refine RX_guard_nbool rfl (fun hc8 => ?_) (fun hc8 => ?_)
    · rw [if_neg (ne_true_of_eq_false hc8)] at h
      simp only [go_sem, seval, hc8]
      refine hZ _ (pp (hJ7 _ true ?_ h))
      refine wr ?_ ?_ <;> repeat' first | rfl | constructor | simp only [go_sem, seval, Bool.or_self, List.length_set, Int.natCast_zero, Int.cast_ofNat_Int, hc5, hr6, hc8]
    rw [if_pos hc8] at h
    obtain ⟨r18, hr9, h⟩ := Option.bind_eq_some_iff.1 h
    simp only [go_sem, seval, hc8, hr9]
    refine RX_guard_bool rfl (fun hc10 => ?_) (fun hc10 => ?_)
    · rw [if_pos hc10] at h
      simp only [go_sem, seval, hc10]
      refine hZ _ (pp (hJ7 _ true ?_ h))
      refine wr ?_ ?_ <;> repeat' first | rfl | constructor | simp only [go_sem, seval, Bool.or_self, List.length_set, Int.natCast_zero, Int.cast_ofNat_Int, hc5, hr6, hc8, hr9, hc10]
    rw [if_neg (ne_true_of_eq_false hc10)] at h
    obtain ⟨r19, hr11, h⟩ := Option.bind_eq_some_iff.1 h
    simp only [go_sem, seval, hc10, hr11]
    refine hZ _ (pp (hJ7 _ (!r19) ?_ h))
    refine wr ?_ ?_ <;> repeat' first | rfl | constructor | simp only [go_sem, seval, Bool.or_self, List.length_set, Int.natCast_zero, Int.cast_ofNat_Int, hc5, hr6, hc8, hr9, hc10, hr11]
  intro c17 h
  unfold ref24_Answer_J2 at h
  refine Wk_cond_bool rfl (fun hc12 => ?_) (fun hc12 => ?_)
  · rw [if_pos hc12] at h
    refine Ws fun Z hZ => ?_
    simp only [go_sem, seval, hc12]
    refine hZ _ (pp (Wk_ret (pp ?_)))
    cases h
    simp only [go_sem, seval]
    exact ⟨_, rfl, RokI.h⟩
  rw [if_neg (ne_true_of_eq_false hc12)] at h
  refine Wk_skip (pp ?_)
  unfold ref24_Answer_J5 at h
  refine Wk_seq ?_
  apply Wk_join1 (fun (c22 : Bool) => ⟨tab 57 (updT (updT (updT (updT (updT deadT 2 (.pref 2 [] 0 0)) 3 (.pref 3 [] 0 0)) 4 (.pref 4 [] 0 0)) 6 (.pref 6 [] 0 0)) 47 (.val (.bool c22))), (upd (upd (upd (upd RZ 2 (.sl true none 4 (some 1) [Actor.row a0])) 3 (.sl true none 9 (some 1) [Reply.row a1])) 4 (.sl true none 4 (some 1) [[.val (.string (⟨#[]⟩)), .val (.string (⟨#[]⟩)), .val (.int .i64 0), .val (.slice none 0 0)]])) 6 (.sl true none 30 (some 1) [Turn.row r10.1]))⟩)
  · intro hJ13
    refine Wk_regionZ fun Z hZ => ?_
    simp only [go_sem, seval, hc12]
    refine RX_guard_nbool rfl (fun hc14 => ?_) (fun hc14 => ?_)
    · rw [if_neg (ne_true_of_eq_false hc14)] at h
      simp only [go_sem, seval, hc14]
      refine hZ _ (pp (hJ13 _ true ?_ h))
      refine wr ?_ ?_ <;> repeat' first | rfl | constructor | simp only [go_sem, seval, hc14]
    rw [if_pos hc14] at h
    simp only [go_sem, seval, hc14]
    refine hZ _ (pp (hJ13 _ r10.1.Done ?_ h))
    refine wr ?_ ?_ <;> repeat' first | rfl | constructor | simp only [go_sem, seval, hc14]
  intro c22 h
  unfold ref24_Answer_J3 at h
  refine Wk_cond_bool rfl (fun hc15 => ?_) (fun hc15 => ?_)
  · rw [if_pos hc15] at h
    refine Ws fun Z hZ => ?_
    simp only [go_sem, seval, hc15]
    refine hZ _ (pp (Wk_ret (pp ?_)))
    cases h
    simp only [go_sem, seval]
    exact ⟨_, rfl, RokI.h⟩
  rw [if_neg (ne_true_of_eq_false hc15)] at h
  refine Wk_skip (pp ?_)
  unfold ref24_Answer_J4 at h
  refine Ws fun Z hZ => ?_
  simp only [go_sem, seval, hc15]
  refine hZ _ (pp (Ws fun Z hZ => ?_))
  simp only [go_sem, seval]
  refine hZ _ (pp (Wk_seq ?_))
  obtain ⟨r23, hr16, h⟩ := Option.bind_eq_some_iff.1 h
  refine Wk_regionZ fun Z hZ => ?_
  simp only [go_sem, seval, hr16]
  refine hZ _ (pp (Wk_ret (pp ?_)))
  cases h
  simp only [go_sem, seval]
  exact ⟨_, rfl, RokI.h⟩
def fs_ref24_Answer (N : Nat) : FnS := ⟨[], false, fn2 Actor.decA Reply.decA fun q0 q1 => (ref24_Answer N q0 q1).map fun r => .tup [.agg (Actor.row r.1), .val (.int .i64 r.2)], false⟩
attribute [go_sem] fs_ref24_Answer
theorem fs_ref24_Answer_ok (N : Nat) : FSOk Try.prog 40 (fs_ref24_Answer N) := ok2 (fun q0 q1 r h => by
  obtain ⟨r', hr, rfl⟩ := Option.map_eq_some_iff.1 h
  exact w_ref24_Answer N q0 q1 r' hr) (Actor.decA_le) (Reply.decA_le)


noncomputable def G_ref24_Resume (N d f : Nat) : Option FnS := glist [(10, 16, fs_ref24_Valid N), (16, 52, fs_ref24_top N), (23, 53, fs_ref24_running N), (39, 79, fs_ref24_with N)] d f
attribute [go_sem] G_ref24_Resume
theorem w_ref24_Resume (N : Nat) (a0 : Actor) (r : Actor × Reply × Int) (h : ref24_Resume N a0 = some r) : Con Try.prog 42 [] false [.agg (Actor.row a0)] (.tup [.agg (Actor.row r.1), .agg (Reply.row r.2.1), .val (.int .i64 r.2.2)]) := by
  refine fun_ok4 (G := (G_ref24_Resume N)) Try.func42 rfl (by decide) (by kernel_rfl) (gc 10 (fs_ref24_Valid_ok N) (gc 16 (fs_ref24_top_ok N) (gc 23 (fs_ref24_running_ok N) (gc 39 (fs_ref24_with_ok N) gn)))) [] mix (Nat.le_of_ble_eq_true rfl) ?_
  simp only [Try.f42]
  unfold ref24_Resume at h
  refine Ws fun Z hZ => ?_
  simp only [go_sem, seval]
  refine hZ _ (pp (Wk_seq (Wk_seq ?_)))
  obtain ⟨r1, hr1, h⟩ := Option.bind_eq_some_iff.1 h
  refine Wk_regionZ fun Z hZ => ?_
  simp only [go_sem, seval, hr1]
  refine hZ _ (pp (Wk_cond_nbool rfl (fun hc2 => ?_) (fun hc2 => ?_)))
  · rw [if_neg (ne_true_of_eq_false hc2)] at h
    refine Ws fun Z hZ => ?_
    simp only [go_sem, seval, hc2]
    refine hZ _ (pp (Wk_ret (pp ?_)))
    cases h
    simp only [go_sem, seval]
    exact ⟨_, rfl, RokI.h⟩
  rw [if_pos hc2] at h
  refine Wk_skip (pp (Wk_seq ?_))
  obtain ⟨r2, hr3, h⟩ := Option.bind_eq_some_iff.1 h
  refine Wk_regionZ fun Z hZ => ?_
  simp only [go_sem, seval, hc2, hr3]
  refine hZ _ (pp (Wk_seq ?_))
  apply Wk_join1 (fun (c7 : Bool) => ⟨tab 50 (updT (updT (updT (updT (updT deadT 1 (.pref 1 [] 0 0)) 2 (.pref 2 [] 0 0)) 3 (.pref 3 [] 0 0)) 5 (.pref 5 [] 0 0)) 24 (.val (.bool c7))), (upd (upd (upd (upd RZ 1 (.sl true none 4 (some 1) [Actor.row a0])) 2 (.sl true none 4 (some 1) [[.val (.string (⟨#[]⟩)), .val (.string (⟨#[]⟩)), .val (.int .i64 0), .val (.slice none 0 0)]])) 3 (.sl true none 9 (some 1) [[.val (.string (⟨#[]⟩)), .val (.int .i64 0), .val (.slice none 0 0), .val (.int .i64 0), .val (.int .i64 0), .val (.int .i64 0), .val (.string (⟨#[]⟩)), .val (.slice none 0 0), .val (.slice none 0 0)]])) 5 (.sl true none 30 (some 1) [Turn.row r2.1]))⟩)
  · intro hJ4
    refine Wk_regionZ fun Z hZ => ?_
    simp only [go_sem, seval]
    refine RX_guard_nbool rfl (fun hc5 => ?_) (fun hc5 => ?_)
    · rw [if_neg (ne_true_of_eq_false hc5)] at h
      simp only [go_sem, seval, hc5]
      refine hZ _ (pp (hJ4 _ true ?_ h))
      refine wr ?_ ?_ <;> repeat' first | rfl | constructor
    rw [if_pos hc5] at h
    obtain ⟨r8, hr6, h⟩ := Option.bind_eq_some_iff.1 h
    simp only [go_sem, seval, hc5, hr6]
    refine hZ _ (pp (hJ4 _ r8 ?_ h))
    refine wr ?_ ?_ <;> repeat' first | rfl | constructor
  intro c7 h
  unfold ref24_Resume_J1 at h
  refine Wk_cond_bool rfl (fun hc7 => ?_) (fun hc7 => ?_)
  · rw [if_pos hc7] at h
    refine Ws fun Z hZ => ?_
    simp only [go_sem, seval, hc7]
    refine hZ _ (pp (Wk_ret (pp ?_)))
    cases h
    simp only [go_sem, seval]
    exact ⟨_, rfl, RokI.h⟩
  rw [if_neg (ne_true_of_eq_false hc7)] at h
  refine Wk_skip (pp ?_)
  unfold ref24_Resume_J2 at h
  refine Wk_seq (Ws fun Z hZ => ?_)
  simp only [go_sem, seval, hc7]
  refine hZ _ (pp (Wk_cond_nbool rfl (fun hc8 => ?_) (fun hc8 => ?_)))
  · rw [if_neg (ne_true_of_eq_false hc8)] at h
    refine Ws fun Z hZ => ?_
    simp only [go_sem, seval, hc8]
    refine hZ _ (pp (Wk_ret (pp ?_)))
    cases h
    simp only [go_sem, seval]
    exact ⟨_, rfl, RokI.h⟩
  rw [if_pos hc8] at h
  refine Wk_skip (pp (Wk_seq ?_))
  obtain ⟨r9, hr9, h⟩ := Option.bind_eq_some_iff.1 h
  refine Wk_regionZ fun Z hZ => ?_
  simp only [go_sem, seval, hc8, hr9]
  refine hZ _ (pp (Wk_seq (Ws fun Z hZ => ?_)))
  simp only [go_sem, seval]
  refine hZ _ (pp (Wk_cond_ndec rfl (fun hc10 => ?_) (fun hc10 => ?_)))
  · have hc10d := decide_eq_false hc10
    rw [if_neg hc10] at h
    refine Ws fun Z hZ => ?_
    simp only [go_sem, seval, hc10d]
    refine hZ _ (pp (Wk_ret (pp ?_)))
    cases h
    simp only [go_sem, seval]
    exact ⟨_, rfl, RokI.h⟩
  have hc10d := decide_eq_true hc10
  rw [if_pos hc10] at h
  refine Wk_skip (pp (Wk_seq (Wk_regionH fun Y hY => ?_)))
  refine RX2_s rfl rfl fun Z hZ => ?_
  simp only [go_sem, seval, hc10d]
  repeat with_reducible refine and_bar (by kernel_rfl) ?_
  refine hZ _ ?_
  refine RX2_s rfl rfl fun Z hZ => ?_
  simp only [go_sem, seval]
  refine hZ _ ?_
  refine RX2_s rfl rfl fun Z hZ => ?_
  simp only [go_sem, seval]
  refine hZ _ ?_
  refine RX2_w fun Z hZ => ?_
  simp only [go_sem, seval]
  refine hZ _ ?_
  refine RX2_w fun Z hZ => ?_
  simp only [go_sem, seval]
  refine hZ _ ?_
  refine RX2_s rfl rfl fun Z hZ => ?_
  simp only [go_sem, seval]
  refine hZ _ ?_
  refine RX2_end (by kernel_rfl) (hY _ (pp (Wk_ret (pp ?_))))
  cases h
  simp only [go_sem, seval]
  exact ⟨_, rfl, RokI.h⟩
def fs_ref24_Resume (N : Nat) : FnS := ⟨[], false, fn1 Actor.decA fun q0 => (ref24_Resume N q0).map fun r => .tup [.agg (Actor.row r.1), .agg (Reply.row r.2.1), .val (.int .i64 r.2.2)], false⟩
attribute [go_sem] fs_ref24_Resume
theorem fs_ref24_Resume_ok (N : Nat) : FSOk Try.prog 42 (fs_ref24_Resume N) := ok1 (fun q0 r h => by
  obtain ⟨r', hr, rfl⟩ := Option.map_eq_some_iff.1 h
  exact w_ref24_Resume N q0 r' hr) (Actor.decA_le)


noncomputable def G_ref24_SameTurn (N d f : Nat) : Option FnS := glist [(9, 25, fs_ref24_SameRequest N), (22, 25, fs_ref24_SameRequest N), (43, 45, fs_ref24_SameReply N)] d f
attribute [go_sem] G_ref24_SameTurn
theorem w_ref24_SameTurn (N : Nat) (a0 : Turn) (a1 : Turn) (r : Bool) (h : ref24_SameTurn N a0 a1 = some r) : Con Try.prog 72 [] true [.agg (Turn.row a0), .agg (Turn.row a1)] (.val (.bool r)) := by
  refine fun_ok4 (G := (G_ref24_SameTurn N)) Try.func72 rfl (by decide) (by kernel_rfl) (gc 9 (fs_ref24_SameRequest_ok N) (gc 22 (fs_ref24_SameRequest_ok N) (gc 43 (fs_ref24_SameReply_ok N) gn))) [] mix (Nat.le_of_ble_eq_true rfl) ?_
  simp only [Try.f72]
  unfold ref24_SameTurn at h
  refine Ws fun Z hZ => ?_
  simp only [go_sem, seval]
  refine hZ _ (pp (Wk_seq ?_))
  obtain ⟨r1, hr1, h⟩ := Option.bind_eq_some_iff.1 h
  refine Wk_regionZ fun Z hZ => ?_
  simp only [go_sem, seval, hr1]
  refine sw (RX_guard_bool rfl) (fun hc2 => ?_) (fun hc2 => ?_)
  · rw [if_neg (ne_true_of_eq_false hc2)] at h
    simp only [go_sem, seval, hc2]
    refine hZ _ (pp (Wk_ret (pp ?_)))
    cases h
    simp only [go_sem, seval]
    exact ⟨_, rfl, RokI.h, PureI.h⟩
  rw [if_pos hc2] at h
  simp only [go_sem, seval, hc2]
  refine sw (RX_guard_dec rfl) (fun hc3 => ?_) (fun hc3 => ?_)
  · have hc3d := decide_eq_false hc3
    rw [if_neg hc3] at h
    simp only [go_sem, seval, hc3d]
    refine hZ _ (pp (Wk_ret (pp ?_)))
    cases h
    simp only [go_sem, seval]
    exact ⟨_, rfl, RokI.h, PureI.h⟩
  have hc3d := decide_eq_true hc3
  rw [if_pos hc3] at h
  obtain ⟨r2, hr4, h⟩ := Option.bind_eq_some_iff.1 h
  simp only [go_sem, seval, hc3d, hr4]
  refine sw (RX_guard_bool rfl) (fun hc5 => ?_) (fun hc5 => ?_)
  · rw [if_neg (ne_true_of_eq_false hc5)] at h
    simp only [go_sem, seval, hc5]
    refine hZ _ (pp (Wk_ret (pp ?_)))
    cases h
    simp only [go_sem, seval]
    exact ⟨_, rfl, RokI.h, PureI.h⟩
  rw [if_pos hc5] at h
  simp only [go_sem, seval, hc5]
  refine sw (RX_guard_dec rfl) (fun hc6 => ?_) (fun hc6 => ?_)
  · have hc6d := decide_eq_false hc6
    rw [if_neg hc6] at h
    simp only [go_sem, seval, hc6d]
    refine hZ _ (pp (Wk_ret (pp ?_)))
    cases h
    simp only [go_sem, seval]
    exact ⟨_, rfl, RokI.h, PureI.h⟩
  have hc6d := decide_eq_true hc6
  rw [if_pos hc6] at h
  simp only [go_sem, seval, hc6d]
  refine RX_guard_dec rfl (fun hc7 => ?_) (fun hc7 => ?_)
  · have hc7d := decide_eq_true hc7
    rw [if_pos hc7] at h
    obtain ⟨r3, hr8, h⟩ := Option.bind_eq_some_iff.1 h
    simp only [go_sem, seval, hc7d, hr8]
    refine hZ _ (pp (Wk_ret (pp ?_)))
    cases h
    simp only [go_sem, seval]
    exact ⟨_, rfl, RokI.h, PureI.h⟩
  have hc7d := decide_eq_false hc7
  rw [if_neg hc7] at h
  simp only [go_sem, seval, hc7d]
  refine hZ _ (pp (Wk_ret (pp ?_)))
  cases h
  simp only [go_sem, seval]
  exact ⟨_, rfl, RokI.h, PureI.h⟩
def fs_ref24_SameTurn (N : Nat) : FnS := ⟨[], true, fn2 Turn.decA Turn.decA fun q0 q1 => (ref24_SameTurn N q0 q1).map fun r => .val (.bool r), false⟩
attribute [go_sem] fs_ref24_SameTurn
theorem fs_ref24_SameTurn_ok (N : Nat) : FSOk Try.prog 72 (fs_ref24_SameTurn N) := ok2 (fun q0 q1 r h => by
  obtain ⟨r', hr, rfl⟩ := Option.map_eq_some_iff.1 h
  exact w_ref24_SameTurn N q0 q1 r' hr) (Turn.decA_le) (Turn.decA_le)


noncomputable def G_ref24_Same (N d f : Nat) : Option FnS := glist [(44, 72, fs_ref24_SameTurn N)] d f
attribute [go_sem] G_ref24_Same
theorem w_ref24_Same (N : Nat) (a0 : Actor) (a1 : Actor) (r : Bool) (h : ref24_Same N a0 a1 = some r) : Con Try.prog 26 [] true [.agg (Actor.row a0), .agg (Actor.row a1)] (.val (.bool r)) := by
  refine fun_ok4 (G := (G_ref24_Same N)) Try.func26 rfl (by decide) (by kernel_rfl) (gc 44 (fs_ref24_SameTurn_ok N) gn) [] mix (Nat.le_of_ble_eq_true rfl) ?_
  simp only [Try.f26]
  unfold ref24_Same at h
  refine Ws fun Z hZ => ?_
  simp only [go_sem, seval]
  refine hZ _ (pp (Wk_seq ?_))
  apply Wk_join1 (fun (c3 : Bool) => ⟨tab 46 (updT (updT (updT deadT 2 (.pref 2 [] 0 0)) 3 (.pref 3 [] 0 0)) 26 (.val (.bool c3))), (upd (upd RZ 2 (.sl true none 4 (some 1) [Actor.row a0])) 3 (.sl true none 4 (some 1) [Actor.row a1]))⟩)
  · intro hJ1
    refine Wk_regionZ fun Z hZ => ?_
    simp only [go_sem, seval]
    refine RX_guard_nbool rfl (fun hc2 => ?_) (fun hc2 => ?_)
    · rw [if_neg (ne_true_of_eq_false hc2)] at h
      simp only [go_sem, seval, hc2]
      refine hZ _ (pp (hJ1 _ true ?_ h))
      refine wr ?_ ?_ <;> repeat' first | rfl | constructor
    rw [if_pos hc2] at h
    simp only [go_sem, seval, hc2]
    refine RX_guard_ndec rfl (fun hc3 => ?_) (fun hc3 => ?_)
    · have hc3d := decide_eq_false hc3
      rw [if_neg hc3] at h
      simp only [go_sem, seval, hc3d]
      refine hZ _ (pp (hJ1 _ true ?_ h))
      refine wr ?_ ?_ <;> repeat' first | rfl | constructor
    have hc3d := decide_eq_true hc3
    rw [if_pos hc3] at h
    simp only [go_sem, seval, hc3d]
    refine hZ _ (pp (hJ1 _ (!decide (((a0.Stack.length : Nat) : Int) = ((a1.Stack.length : Nat) : Int))) ?_ h))
    refine wr ?_ ?_ <;> repeat' first | rfl | constructor
  intro c3 h
  unfold ref24_Same_J1 at h
  refine Wk_cond_bool rfl (fun hc4 => ?_) (fun hc4 => ?_)
  · rw [if_pos hc4] at h
    refine Ws fun Z hZ => ?_
    simp only [go_sem, seval, hc4]
    refine hZ _ (pp (Wk_ret (pp ?_)))
    cases h
    simp only [go_sem, seval]
    exact ⟨_, rfl, RokI.h, PureI.h⟩
  rw [if_neg (ne_true_of_eq_false hc4)] at h
  refine Wk_skip (pp ?_)
  unfold ref24_Same_J2 at h
  refine Wk_seq (Ws fun Z hZ => ?_)
  simp only [go_sem, seval, hc4]
  refine hZ _ (pp (Wk_block (Wk_real fun hreal6 => ?_)))
  have hl5 := hreal6.cell 2 3 (by simp only [go_sem, seval]; rfl) rfl
  rw [List.length_map] at hl5
  refine Wk_range (fun (v5 : Nat) (b : Unit) => ⟨tab 46 (updT (updT (updT deadT 2 (.pref 2 [] 0 0)) 3 (.pref 3 [] 0 0)) 5 (.val (.int .i64 ((v5 : Nat) : Int)))), (upd (upd RZ 2 (.sl true none 4 (some 1) [Actor.row a0])) 3 (.sl true none 4 (some 1) [Actor.row a1]))⟩) () h ?_ ?_
  · refine wr ?_ ?_ <;> repeat' first | rfl | constructor
  rintro v5 ⟨⟩ hi7 h -
  rcases (drop_cases a0.Stack v5 hi7).symm with ⟨hi7', _, hd10⟩ | ⟨x8, hi7', hx8, hd10⟩
  · rw [hd10] at h
    simp only [ref24_Same_L1] at h
    refine Wk_seq (Ws fun Z hZ => ?_)
    simp only [go_sem, seval, hi7']
    refine hZ _ (pp ?_)
    try simp only [Int.ofNat_lt, hi7', if_true, if_false] at h
    refine Wk_cond_f rfl (Wk_exit (pp (Ws fun Z hZ => ?_)))
    simp only [go_sem, seval]
    refine hZ _ (pp (Wk_ret (pp ?_)))
    cases h
    simp only [go_sem, seval]
    exact ⟨_, rfl, RokI.h, PureI.h⟩
  rw [hd10] at h
  simp only [ref24_Same_L1] at h
  have hw9 := wrap_succ hi7' hl5
  refine Wk_seq (Ws fun Z hZ => ?_)
  simp only [go_sem, seval, hi7']
  refine hZ _ (pp ?_)
  try simp only [Int.ofNat_lt, hi7', if_true, if_false] at h
  refine Wk_cond_t rfl (Wk_skip (pp (Wk_seq (Wk_block (Wk_seq ?_)))))
  try rw [gx_nat hx8] at h
  obtain ⟨x4, hb11, hx12, h⟩ := gx_some h
  try simp only [Int.toNat_natCast] at hx12
  try simp only [Int.ofNat_lt, Int.natCast_nonneg, true_and] at hb11
  obtain ⟨r5, hr13, h⟩ := Option.bind_eq_some_iff.1 h
  refine Wk_regionD fun Z hZ => ?_
  simp only [go_sem, seval, hx8, hi7', hb11, hx12, hr13]
  repeat with_reducible refine and_bar (by kernel_rfl) ?_
  refine hZ _ (by kernel_rfl) (pp (Wk_cond_nbool rfl (fun hc14 => ?_) (fun hc14 => ?_)))
  · rw [if_neg (ne_true_of_eq_false hc14)] at h
    refine Ws fun Z hZ => ?_
    simp only [go_sem, seval, hc14]
    refine hZ _ (pp (Wk_ret (pp ?_)))
    cases h
    simp only [go_sem, seval]
    exact ⟨_, rfl, RokI.h, PureI.h⟩
  rw [if_pos hc14] at h
  refine Wk_skip (pp (Wk_regionZ fun Z hZ => ?_))
  simp only [go_sem, seval, hw9, hc14]
  refine hZ _ (pp ?_)
  first | refine ⟨(), ?_, h⟩ | refine ⟨hi7', (), ?_, h⟩
  refine wr ?_ ?_ <;> repeat' first | rfl | constructor
def fs_ref24_Same (N : Nat) : FnS := ⟨[], true, fn2 Actor.decA Actor.decA fun q0 q1 => (ref24_Same N q0 q1).map fun r => .val (.bool r), false⟩
attribute [go_sem] fs_ref24_Same
theorem fs_ref24_Same_ok (N : Nat) : FSOk Try.prog 26 (fs_ref24_Same N) := ok2 (fun q0 q1 r h => by
  obtain ⟨r', hr, rfl⟩ := Option.map_eq_some_iff.1 h
  exact w_ref24_Same N q0 q1 r' hr) (Actor.decA_le) (Actor.decA_le)


noncomputable def G_law24_TurnsCalls (N d f : Nat) : Option FnS := glist [(41, 9, fs_law24_awake N), (44, 10, fs_law24_Small N), (50, 10, fs_law24_Small N), (58, 11, fs_law24_request N), (73, 12, fs_law24_reply N), (81, 35, fs_turns_Suspend N), (89, 36, fs_ref24_Suspend N), (97, 37, fs_turns_StartCall N), (105, 38, fs_ref24_StartCall N), (111, 39, fs_turns_Answer N), (117, 40, fs_ref24_Answer N), (122, 41, fs_turns_Resume N), (128, 42, fs_ref24_Resume N), (139, 43, fs_turns_Nested N), (149, 44, fs_ref24_Nested N), (154, 26, fs_ref24_Same N), (163, 26, fs_ref24_Same N), (173, 26, fs_ref24_Same N), (183, 26, fs_ref24_Same N), (188, 45, fs_ref24_SameReply N), (198, 25, fs_ref24_SameRequest N)] d f
attribute [go_sem] G_law24_TurnsCalls
theorem w_law24_TurnsCalls (N : Nat) (a0 : Actor) (a1 : Turn) (a2 : Ref) (a3 : ByteArray) (a4 : (List Value)) (a5 : ByteArray) (a6 : Int) (a7 : (List Int)) (a8 : Reply) (r : Bool) (h : law24_TurnsCalls N a0 a1 a2 a3 a4 a5 a6 a7 a8 = some r) : Con Try.prog 5 [] true [.agg (Actor.row a0), .agg (Turn.row a1), .agg [.val (.string a2.Type_), .val (.string a2.Key)], .val (.string a3), .sl false none 5 none (a4.map Value.row), .val (.string a5), .val (.int .i64 a6), .sl false none 1 none (a7.map (rowI .i64)), .agg (Reply.row a8)] (.val (.bool r)) := by
  refine fun_ok4 (G := (G_law24_TurnsCalls N)) Try.func5 rfl (by decide) (by kernel_rfl) (gc 41 (fs_law24_awake_ok N) (gc 44 (fs_law24_Small_ok N) (gc 50 (fs_law24_Small_ok N) (gc 58 (fs_law24_request_ok N) (gc 73 (fs_law24_reply_ok N) (gc 81 (fs_turns_Suspend_ok N) (gc 89 (fs_ref24_Suspend_ok N) (gc 97 (fs_turns_StartCall_ok N) (gc 105 (fs_ref24_StartCall_ok N) (gc 111 (fs_turns_Answer_ok N) (gc 117 (fs_ref24_Answer_ok N) (gc 122 (fs_turns_Resume_ok N) (gc 128 (fs_ref24_Resume_ok N) (gc 139 (fs_turns_Nested_ok N) (gc 149 (fs_ref24_Nested_ok N) (gc 154 (fs_ref24_Same_ok N) (gc 163 (fs_ref24_Same_ok N) (gc 173 (fs_ref24_Same_ok N) (gc 183 (fs_ref24_Same_ok N) (gc 188 (fs_ref24_SameReply_ok N) (gc 198 (fs_ref24_SameRequest_ok N) gn))))))))))))))))))))) [] mix (Nat.le_of_ble_eq_true rfl) ?_
  simp only [Try.f5]
  unfold law24_TurnsCalls at h
  refine Ws fun Z hZ => ?_
  simp only [go_sem, seval]
  refine hZ _ (pp (Wk_seq (Wk_seq ?_)))
  obtain ⟨r1, hr1, h⟩ := Option.bind_eq_some_iff.1 h
  refine Wk_regionZ fun Z hZ => ?_
  simp only [go_sem, seval, hr1]
  refine hZ _ (pp (Wk_cond_nbool rfl (fun hc2 => ?_) (fun hc2 => ?_)))
  · rw [if_neg (ne_true_of_eq_false hc2)] at h
    refine Ws fun Z hZ => ?_
    simp only [go_sem, seval, hc2]
    refine hZ _ (pp (Wk_ret (pp ?_)))
    cases h
    simp only [go_sem, seval]
    exact ⟨_, rfl, RokI.h, PureI.h⟩
  rw [if_pos hc2] at h
  refine Wk_skip (pp (Wk_seq ?_))
  apply Wk_join1 (fun (c12 : Bool) => ⟨tab 205 (updT (updT (updT (updT (updT (updT (updT (updT (updT (updT deadT 3 (.val (.string a3))) 4 (.sl false none 5 none (a4.map Value.row))) 5 (.val (.string a5))) 6 (.val (.int .i64 a6))) 7 (.sl false none 1 none (a7.map (rowI .i64)))) 9 (.pref 9 [] 0 0)) 10 (.pref 10 [] 0 0)) 11 (.pref 11 [] 0 0)) 17 (.pref 17 [] 0 0)) 75 (.val (.bool c12))), (upd (upd (upd (upd RZ 9 (.sl true none 4 (some 1) [Actor.row a0])) 10 (.sl true none 30 (some 1) [Turn.row a1])) 11 (.sl true none 2 (some 1) [[.val (.string a2.Type_), .val (.string a2.Key)]])) 17 (.sl true none 9 (some 1) [Reply.row a8]))⟩)
  · intro hJ3
    obtain ⟨r13, hr4, h⟩ := Option.bind_eq_some_iff.1 h
    refine Wk_regionZ fun Z hZ => ?_
    simp only [go_sem, seval, hc2, hr4]
    refine RX_guard_nbool rfl (fun hc5 => ?_) (fun hc5 => ?_)
    · rw [if_neg (ne_true_of_eq_false hc5)] at h
      simp only [go_sem, seval, hc5]
      refine hZ _ (pp (hJ3 _ true ?_ h))
      refine wr ?_ ?_ <;> repeat' first | rfl | constructor
    rw [if_pos hc5] at h
    obtain ⟨r14, hr6, h⟩ := Option.bind_eq_some_iff.1 h
    simp only [go_sem, seval, hc5, hr6]
    refine RX_guard_nbool rfl (fun hc7 => ?_) (fun hc7 => ?_)
    · rw [if_neg (ne_true_of_eq_false hc7)] at h
      simp only [go_sem, seval, hc7]
      refine hZ _ (pp (hJ3 _ true ?_ h))
      refine wr ?_ ?_ <;> repeat' first | rfl | constructor
    rw [if_pos hc7] at h
    obtain ⟨r15, hr8, h⟩ := Option.bind_eq_some_iff.1 h
    simp only [go_sem, seval, hc7, hr8]
    refine RX_guard_nbool rfl (fun hc9 => ?_) (fun hc9 => ?_)
    · rw [if_neg (ne_true_of_eq_false hc9)] at h
      simp only [go_sem, seval, hc9]
      refine hZ _ (pp (hJ3 _ true ?_ h))
      refine wr ?_ ?_ <;> repeat' first | rfl | constructor
    rw [if_pos hc9] at h
    simp only [go_sem, seval, hc9]
    refine RX_guard_dec rfl (fun hc10 => ?_) (fun hc10 => ?_)
    · have hc10d := decide_eq_true hc10
      rw [if_pos hc10] at h
      simp only [go_sem, seval, hc10d]
      refine hZ _ (pp (hJ3 _ true ?_ h))
      refine wr ?_ ?_ <;> repeat' first | rfl | constructor
    have hc10d := decide_eq_false hc10
    rw [if_neg hc10] at h
    simp only [go_sem, seval, hc10d]
    refine RX_guard_dec rfl (fun hc11 => ?_) (fun hc11 => ?_)
    · have hc11d := decide_eq_true hc11
      rw [if_pos hc11] at h
      simp only [go_sem, seval, hc11d]
      refine hZ _ (pp (hJ3 _ true ?_ h))
      refine wr ?_ ?_ <;> repeat' first | rfl | constructor
    have hc11d := decide_eq_false hc11
    rw [if_neg hc11] at h
    obtain ⟨r16, hr12, h⟩ := Option.bind_eq_some_iff.1 h
    simp only [go_sem, seval, hc11d, hr12]
    refine hZ _ (pp (hJ3 _ (!r16) ?_ h))
    refine wr ?_ ?_ <;> repeat' first | rfl | constructor
  intro c12 h
  unfold law24_TurnsCalls_J1 at h
  refine Wk_cond_bool rfl (fun hc13 => ?_) (fun hc13 => ?_)
  · rw [if_pos hc13] at h
    refine Ws fun Z hZ => ?_
    simp only [go_sem, seval, hc13]
    refine hZ _ (pp (Wk_ret (pp ?_)))
    cases h
    simp only [go_sem, seval]
    exact ⟨_, rfl, RokI.h, PureI.h⟩
  rw [if_neg (ne_true_of_eq_false hc13)] at h
  refine Wk_skip (pp ?_)
  unfold law24_TurnsCalls_J2 at h
  refine Wk_seq ?_
  obtain ⟨r17, hr14, h⟩ := Option.bind_eq_some_iff.1 h
  refine Wk_regionZ fun Z hZ => ?_
  simp only [go_sem, seval, hc13, hr14]
  refine hZ _ (pp (Wk_seq ?_))
  obtain ⟨r18, hr15, h⟩ := Option.bind_eq_some_iff.1 h
  refine Wk_regionZ fun Z hZ => ?_
  simp only [go_sem, seval, hr15]
  refine hZ _ (pp (Wk_seq ?_))
  obtain ⟨r19, hr16, h⟩ := Option.bind_eq_some_iff.1 h
  refine Wk_regionZ fun Z hZ => ?_
  simp only [go_sem, seval, hr16]
  refine hZ _ (pp (Wk_seq ?_))
  obtain ⟨r20, hr17, h⟩ := Option.bind_eq_some_iff.1 h
  refine Wk_regionZ fun Z hZ => ?_
  simp only [go_sem, seval, hr17]
  refine hZ _ (pp (Wk_seq ?_))
  obtain ⟨r21, hr18, h⟩ := Option.bind_eq_some_iff.1 h
  refine Wk_regionZ fun Z hZ => ?_
  simp only [go_sem, seval, hr18]
  refine hZ _ (pp (Wk_seq ?_))
  obtain ⟨r22, hr19, h⟩ := Option.bind_eq_some_iff.1 h
  refine Wk_regionZ fun Z hZ => ?_
  simp only [go_sem, seval, hr19]
  refine hZ _ (pp (Wk_seq ?_))
  obtain ⟨r23, hr20, h⟩ := Option.bind_eq_some_iff.1 h
  refine Wk_regionZ fun Z hZ => ?_
  simp only [go_sem, seval, hr20]
  refine hZ _ (pp (Wk_seq ?_))
  obtain ⟨r24, hr21, h⟩ := Option.bind_eq_some_iff.1 h
  refine Wk_regionZ fun Z hZ => ?_
  simp only [go_sem, seval, hr21]
  refine hZ _ (pp (Wk_seq ?_))
  obtain ⟨r25, hr22, h⟩ := Option.bind_eq_some_iff.1 h
  refine Wk_regionZ fun Z hZ => ?_
  simp only [go_sem, seval, hr22]
  refine hZ _ (pp (Wk_seq ?_))
  obtain ⟨r26, hr23, h⟩ := Option.bind_eq_some_iff.1 h
  refine Wk_regionZ fun Z hZ => ?_
  simp only [go_sem, seval, hr23]
  refine hZ _ (pp (Wk_seq ?_))
  obtain ⟨r27, hr24, h⟩ := Option.bind_eq_some_iff.1 h
  refine Wk_regionZ fun Z hZ => ?_
  simp only [go_sem, seval, hr24]
  refine sw (RX_guard_bool rfl) (fun hc25 => ?_) (fun hc25 => ?_)
  · rw [if_neg (ne_true_of_eq_false hc25)] at h
    simp only [go_sem, seval, hc25]
    refine hZ _ (pp (Wk_ret (pp ?_)))
    cases h
    simp only [go_sem, seval]
    exact ⟨_, rfl, RokI.h, PureI.h⟩
  rw [if_pos hc25] at h
  simp only [go_sem, seval, hc25]
  refine sw (RX_guard_dec rfl) (fun hc26 => ?_) (fun hc26 => ?_)
  · have hc26d := decide_eq_false hc26
    rw [if_neg hc26] at h
    simp only [go_sem, seval, hc26d]
    refine hZ _ (pp (Wk_ret (pp ?_)))
    cases h
    simp only [go_sem, seval]
    exact ⟨_, rfl, RokI.h, PureI.h⟩
  have hc26d := decide_eq_true hc26
  rw [if_pos hc26] at h
  obtain ⟨r28, hr27, h⟩ := Option.bind_eq_some_iff.1 h
  simp only [go_sem, seval, hc26d, hr27]
  refine sw (RX_guard_bool rfl) (fun hc28 => ?_) (fun hc28 => ?_)
  · rw [if_neg (ne_true_of_eq_false hc28)] at h
    simp only [go_sem, seval, hc28]
    refine hZ _ (pp (Wk_ret (pp ?_)))
    cases h
    simp only [go_sem, seval]
    exact ⟨_, rfl, RokI.h, PureI.h⟩
  rw [if_pos hc28] at h
  simp only [go_sem, seval, hc28]
  refine sw (RX_guard_dec rfl) (fun hc29 => ?_) (fun hc29 => ?_)
  · have hc29d := decide_eq_false hc29
    rw [if_neg hc29] at h
    simp only [go_sem, seval, hc29d]
    refine hZ _ (pp (Wk_ret (pp ?_)))
    cases h
    simp only [go_sem, seval]
    exact ⟨_, rfl, RokI.h, PureI.h⟩
  have hc29d := decide_eq_true hc29
  rw [if_pos hc29] at h
  obtain ⟨r29, hr30, h⟩ := Option.bind_eq_some_iff.1 h
  simp only [go_sem, seval, hc29d, hr30]
  refine sw (RX_guard_bool rfl) (fun hc31 => ?_) (fun hc31 => ?_)
  · rw [if_neg (ne_true_of_eq_false hc31)] at h
    simp only [go_sem, seval, hc31]
    refine hZ _ (pp (Wk_ret (pp ?_)))
    cases h
    simp only [go_sem, seval]
    exact ⟨_, rfl, RokI.h, PureI.h⟩
  rw [if_pos hc31] at h
  simp only [go_sem, seval, hc31]
  refine sw (RX_guard_dec rfl) (fun hc32 => ?_) (fun hc32 => ?_)
  · have hc32d := decide_eq_false hc32
    rw [if_neg hc32] at h
    simp only [go_sem, seval, hc32d]
    refine hZ _ (pp (Wk_ret (pp ?_)))
    cases h
    simp only [go_sem, seval]
    exact ⟨_, rfl, RokI.h, PureI.h⟩
  have hc32d := decide_eq_true hc32
  rw [if_pos hc32] at h
  obtain ⟨r30, hr33, h⟩ := Option.bind_eq_some_iff.1 h
  simp only [go_sem, seval, hc32d, hr33]
  refine sw (RX_guard_bool rfl) (fun hc34 => ?_) (fun hc34 => ?_)
  · rw [if_neg (ne_true_of_eq_false hc34)] at h
    simp only [go_sem, seval, hc34]
    refine hZ _ (pp (Wk_ret (pp ?_)))
    cases h
    simp only [go_sem, seval]
    exact ⟨_, rfl, RokI.h, PureI.h⟩
  rw [if_pos hc34] at h
  obtain ⟨r31, hr35, h⟩ := Option.bind_eq_some_iff.1 h
  simp only [go_sem, seval, hc34, hr35]
  refine sw (RX_guard_bool rfl) (fun hc36 => ?_) (fun hc36 => ?_)
  · rw [if_neg (ne_true_of_eq_false hc36)] at h
    simp only [go_sem, seval, hc36]
    refine hZ _ (pp (Wk_ret (pp ?_)))
    cases h
    simp only [go_sem, seval]
    exact ⟨_, rfl, RokI.h, PureI.h⟩
  rw [if_pos hc36] at h
  simp only [go_sem, seval, hc36]
  refine sw (RX_guard_dec rfl) (fun hc37 => ?_) (fun hc37 => ?_)
  · have hc37d := decide_eq_false hc37
    rw [if_neg hc37] at h
    simp only [go_sem, seval, hc37d]
    refine hZ _ (pp (Wk_ret (pp ?_)))
    cases h
    simp only [go_sem, seval]
    exact ⟨_, rfl, RokI.h, PureI.h⟩
  have hc37d := decide_eq_true hc37
  rw [if_pos hc37] at h
  obtain ⟨r32, hr38, h⟩ := Option.bind_eq_some_iff.1 h
  simp only [go_sem, seval, hc37d, hr38]
  refine RX_guard_bool rfl (fun hc39 => ?_) (fun hc39 => ?_)
  · rw [if_pos hc39] at h
    simp only [go_sem, seval, hc39]
    refine hZ _ (pp (Wk_ret (pp ?_)))
    cases h
    simp only [go_sem, seval]
    exact ⟨_, rfl, RokI.h, PureI.h⟩
  rw [if_neg (ne_true_of_eq_false hc39)] at h
  simp only [go_sem, seval, hc39]
  refine hZ _ (pp (Wk_ret (pp ?_)))
  cases h
  simp only [go_sem, seval]
  exact ⟨_, rfl, RokI.h, PureI.h⟩
def fs_law24_TurnsCalls (N : Nat) : FnS := { own := [], pure := true, fn := fun cs => match cs with
  | [c0, c1, c2, c3, c4, c5, c6, c7, c8] => (Actor.decA c0).bind fun qc0 => (Turn.decA c1).bind fun qc1 => (Ref.decA c2).bind fun qc2 => (decS c3).bind fun qc3 => ((decL 5 Value.dec) c4).bind fun qc4 => (decS c5).bind fun qc5 => ((decI .i64) c6).bind fun qc6 => ((decL 1 (dec1 (decI .i64))) c7).bind fun qc7 => (Reply.decA c8).bind fun qc8 => (law24_TurnsCalls N qc0 qc1 qc2 qc3 qc4 qc5 qc6 qc7 qc8).map fun r => .val (.bool r)
  | _ => none }
attribute [go_sem] fs_law24_TurnsCalls
theorem fs_law24_TurnsCalls_ok (N : Nat) : FSOk Try.prog 5 (fs_law24_TurnsCalls N) := by
  refine ⟨fun cs r h => ?_, fun h => by cases h⟩
  simp only [fs_law24_TurnsCalls] at h
  split at h
  · simp only [Option.bind_eq_some_iff, Option.map_eq_some_iff] at h
    obtain ⟨q0, h0, q1, h1, q2, h2, q3, h3, q4, h4, q5, h5, q6, h6, q7, h7, q8, h8, r', hr, rfl⟩ := h
    exact ((w_law24_TurnsCalls N q0 q1 q2 q3 q4 q5 q6 q7 q8 r' hr).args (LeL.cons (Actor.decA_le h0) (LeL.cons (Turn.decA_le h1) (LeL.cons (Ref.decA_le h2) (LeL.cons (decS_le h3) (LeL.cons (decL_le Value.dec_le h4) (LeL.cons (decS_le h5) (LeL.cons (decI_le h6) (LeL.cons (decL_le (decI1_le .i64) h7) (LeL.cons (Reply.decA_le h8) (LeL.nil)))))))))))
  · cases h

end Go.Proofs.Ytmgpaicldmgckaa
