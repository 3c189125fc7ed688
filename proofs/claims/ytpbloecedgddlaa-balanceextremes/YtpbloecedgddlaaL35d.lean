/- The law BalanceAny, in plain words. -/
import Derived.Test.YtpbloecedgddlaaL35c
set_option linter.unusedSimpArgs false
set_option linter.unusedVariables false
namespace Go.Proofs.Ytpbloecedgddlaa
open Go Go.Proofs Go.Abs

theorem IsLeast.get {l : List Load} {i : Nat} (h : IsLeast l i) : ∃ y, l[i]? = some y := ⟨h.choose, h.choose_spec.1⟩
theorem IsMost.get {l : List Load} {i : Nat} (h : IsMost l i) : ∃ y, l[i]? = some y := ⟨h.choose, h.choose_spec.1⟩

theorem place_both (N : Nat) (l : List Load) (hl : l.length ≤ 1000) : ∃ res, balance_Place N l = some res ∧ ref35_Place N l = some res := by
  rw [balance_Place, ref35_Place, bal_Valid N l (by omega), ref_Valid N l (by omega)]
  simp only [Option.bind_some]
  by_cases hv : VB l = true
  · have h := (VB_iff l).1 hv
    obtain ⟨i, j, e1, hi, hj⟩ := bal_extremes N l h.pos
    obtain ⟨i', e2, hi'⟩ := ref_least N l h.pos
    obtain rfl := hi.unique hi'
    obtain ⟨y, hy⟩ := hi.get
    simp only [hv, if_true, e1, e2, Option.bind_some, gx_nat hy, slices_Clone_Load, apn_ok (show l.length * (16 + 1) ≤ 140737488355328 by omega)]
    by_cases c : y.Actors = 1000
    · exact ⟨([], 0, 5), by simp only [c, if_true], by simp only [c, if_true]⟩
    · exact ⟨_, by simp only [c, if_false]; rfl, by simp only [c, if_false]⟩
  · exact ⟨_, by simp only [hv]; rfl, by simp only [hv]; rfl⟩

theorem apply_both (N : Nat) (l : List Load) (ms : List LoadMove) (hl : l.length ≤ 1000) : ∃ res, balance_Apply N l ms = some res ∧ ref35_Apply N l ms = some res := by
  rw [balance_Apply, ref35_Apply, bal_Valid N l (by omega), ref_Valid N l (by omega)]
  simp only [Option.bind_some]
  by_cases hv : VB l = true
  · have h := (VB_iff l).1 hv
    obtain ⟨out, e, h1, _⟩ := apply_total N ms 0 l h.bd
    simp only [hv, if_true, slices_Clone_Load, apn_ok (show l.length * (16 + 1) ≤ 140737488355328 by omega), Option.bind_some, apply_L1]
    exact ⟨_, h1, h1⟩
  · exact ⟨_, by simp only [hv]; rfl, by simp only [hv]; rfl⟩

theorem extremes_both (N : Nat) {l : List Load} (h : VL l) : ∃ i j y z, balance_extremes N l = some (((i : Nat) : Int), ((j : Nat) : Int)) ∧ ref35_least N l = some ((i : Nat) : Int) ∧ ref35_most N l = some ((j : Nat) : Int) ∧ l[i]? = some y ∧ l[j]? = some z := by
  obtain ⟨i, j, e1, hi, hj⟩ := bal_extremes N l h.pos
  obtain ⟨i', e2, hi'⟩ := ref_least N l h.pos
  obtain ⟨j', e3, hj'⟩ := ref_most N l h.pos
  obtain rfl := hi.unique hi'
  obtain rfl := hj.unique hj'
  obtain ⟨y, hy⟩ := hi.get
  obtain ⟨z, hz⟩ := hj.get
  exact ⟨i, j, y, z, e1, e2, e3, hy, hz⟩

theorem least_both (N : Nat) (l : List Load) (hl : l.length ≤ 1000) : ∃ res, balance_Least N l = some res ∧ ref35_Least N l = some res := by
  rw [balance_Least, ref35_Least, bal_Valid N l (by omega), ref_Valid N l (by omega)]
  simp only [Option.bind_some]
  by_cases hv : VB l = true
  · obtain ⟨i, j, y, z, e1, e2, e3, hy, hz⟩ := extremes_both N ((VB_iff l).1 hv)
    simp only [hv, if_true, e1, e2, Option.bind_some, gx_nat hy]
    exact ⟨_, rfl, rfl⟩
  · exact ⟨_, by simp only [hv]; rfl, by simp only [hv]; rfl⟩
theorem most_both (N : Nat) (l : List Load) (hl : l.length ≤ 1000) : ∃ res, balance_Most N l = some res ∧ ref35_Most N l = some res := by
  rw [balance_Most, ref35_Most, bal_Valid N l (by omega), ref_Valid N l (by omega)]
  simp only [Option.bind_some]
  by_cases hv : VB l = true
  · obtain ⟨i, j, y, z, e1, e2, e3, hy, hz⟩ := extremes_both N ((VB_iff l).1 hv)
    simp only [hv, if_true, e1, e3, Option.bind_some, gx_nat hz]
    exact ⟨_, rfl, rfl⟩
  · exact ⟨_, by simp only [hv]; rfl, by simp only [hv]; rfl⟩
theorem spread_both (N : Nat) (l : List Load) (hl : l.length ≤ 1000) : ∃ res, balance_Spread N l = some res ∧ ref35_Spread N l = some res := by
  rw [balance_Spread, ref35_Spread, bal_Valid N l (by omega), ref_Valid N l (by omega)]
  simp only [Option.bind_some]
  by_cases hv : VB l = true
  · obtain ⟨i, j, y, z, e1, e2, e3, hy, hz⟩ := extremes_both N ((VB_iff l).1 hv)
    simp only [hv, if_true, e1, e2, e3, Option.bind_some, gx_nat hz, gx_nat hy]
    exact ⟨_, rfl, rfl⟩
  · exact ⟨_, by simp only [hv]; rfl, by simp only [hv]; rfl⟩
theorem total_both (N : Nat) (l : List Load) (hl : l.length ≤ 1000) : ∃ res, balance_Total N l = some res ∧ ref35_Total N l = some res := by
  by_cases hv : VB l = true
  · exact ⟨_, bal_Total N ((VB_iff l).1 hv), ref_Total N ((VB_iff l).1 hv)⟩
  · rw [balance_Total, ref35_Total, bal_Valid N l (by omega), ref_Valid N l (by omega)]
    exact ⟨_, by simp only [Option.bind_some, hv]; rfl, by simp only [Option.bind_some, hv]; rfl⟩
theorem needed_both' (N : Nat) (l : List Load) (hl : l.length ≤ 1000) : ∃ res, balance_Needed N l = some res ∧ ref35_Needed N l = some res := by
  by_cases hv : VB l = true
  · exact ⟨_, needed_both N ((VB_iff l).1 hv)⟩
  · rw [balance_Needed, ref35_Needed, bal_Valid N l (by omega), ref_Valid N l (by omega)]
    exact ⟨_, by simp only [Option.bind_some, hv]; rfl, by simp only [Option.bind_some, hv]; rfl⟩
theorem plan_both' (N : Nat) (hN : 16000000 < N) (l : List Load) (hl : l.length ≤ 1000) : ∃ res, balance_Plan N l = some res ∧ ref35_Plan N l = some res := by
  by_cases hv : VB l = true
  · exact plan_both N hN ((VB_iff l).1 hv)
  · rw [balance_Plan, ref35_Plan, bal_Valid N l (by omega), ref_Valid N l (by omega)]
    exact ⟨_, by simp only [Option.bind_some, hv]; rfl, by simp only [Option.bind_some, hv]; rfl⟩

theorem awake35 : law35_awake 16000001 = some true := by rfl

theorem plain_BalanceAny (l : List Load) (ms : List LoadMove) : law35_BalanceAny 16000001 l ms = some true := by
  simp only [law35_BalanceAny, awake35, Option.bind_some, if_true, law35_BalanceAny_J1]
  by_cases c : 40 < (l.length : Int)
  · simp only [c, if_true]
  · simp only [c, if_false]
    by_cases c2 : 200 < (ms.length : Int)
    · simp only [c2, decide_true, if_true]
    · simp only [c2, decide_false, Bool.false_eq_true, if_false]
      obtain ⟨a, a1, a2⟩ := place_both 16000001 l (by omega)
      obtain ⟨b, b1, b2⟩ := apply_both 16000001 l ms (by omega)
      obtain ⟨d, d1, d2⟩ := least_both 16000001 l (by omega)
      obtain ⟨e, e1, e2⟩ := most_both 16000001 l (by omega)
      obtain ⟨f, f1, f2⟩ := spread_both 16000001 l (by omega)
      obtain ⟨g, g1, g2⟩ := total_both 16000001 l (by omega)
      obtain ⟨h, h1, h2⟩ := needed_both' 16000001 l (by omega)
      obtain ⟨k, k1, k2⟩ := plan_both' 16000001 (by omega) l (by omega)
      simp only [law35_BalanceAny_J4, law35_BalanceAny_J3, law35_BalanceAny_J2, a1, a2, b1, b2, d1, d2, e1, e2, f1, f2, g1, g2, h1, h2, k1, k2, bal_Valid 16000001 l (by omega), ref_Valid 16000001 l (by omega), Option.bind_some, if_true, same_loads, same_moves, Bool.not_true, Bool.false_eq_true, if_false]

end Go.Proofs.Ytpbloecedgddlaa
