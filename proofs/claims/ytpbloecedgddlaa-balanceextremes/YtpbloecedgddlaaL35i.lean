/- The law BalanceExtremes, in plain words. -/
import Derived.Test.YtpbloecedgddlaaL35f
set_option linter.unusedSimpArgs false
set_option linter.unusedVariables false
namespace Go.Proofs.Ytpbloecedgddlaa
open Go Go.Proofs Go.Abs

theorem ext_loop (kx : Int → Int → Int → Int → Option Bool) (l : List Load) : ∀ (m v a b : Nat) (y z : Load), v + m = l.length → a ≤ v → b ≤ v → LeastTo l v a → MostTo l v b → l[a]? = some y → l[b]? = some z →
    ∃ i j y' z', law35_BalanceExtremes_L1 kx l m v (y.Member, y.Actors, z.Member, z.Actors) = kx y'.Member y'.Actors z'.Member z'.Actors ∧ IsLeast l i ∧ IsMost l j ∧ l[i]? = some y' ∧ l[j]? = some z'
  | 0, v, a, b, y, z, hm, ha, hb, h1, h2, hy, hz => ⟨a, b, y, z, rfl, h1.done (by omega), h2.done (by omega), hy, hz⟩
  | m + 1, v, a, b, y, z, hm, ha, hb, h1, h2, hy, hz => by
    have hv : v < l.length := by omega
    have hx : l[v]? = some l[v] := List.getElem?_eq_getElem hv
    rw [law35_BalanceExtremes_L1, gx_nat hx]
    by_cases c1 : l[v].Actors < y.Actors
    · have t1 := h1.take hx hy c1
      simp only [c1, if_true, law35_BalanceExtremes_J1, gx_nat hx]
      by_cases c2 : z.Actors < l[v].Actors
      · simp only [c2, if_true]
        exact ext_loop kx l m (v + 1) v v _ _ (by omega) (by omega) (by omega) t1 (h2.take hx hz c2) hx hx
      · simp only [c2, if_false]
        exact ext_loop kx l m (v + 1) v b _ _ (by omega) (by omega) (by omega) t1 (h2.stay hb hx hz c2) hx hz
    · have t1 := h1.stay ha hx hy c1
      simp only [c1, if_false, law35_BalanceExtremes_J1, gx_nat hx]
      by_cases c2 : z.Actors < l[v].Actors
      · simp only [c2, if_true]
        exact ext_loop kx l m (v + 1) a v _ _ (by omega) (by omega) (by omega) t1 (h2.take hx hz c2) hy hx
      · simp only [c2, if_false]
        exact ext_loop kx l m (v + 1) a b _ _ (by omega) (by omega) (by omega) t1 (h2.stay hb hx hz c2) hy hz

theorem plain_BalanceExtremes (xs : List Int) (hx : ∀ x ∈ xs, 0 ≤ x ∧ x ≤ 65535) : law35_BalanceExtremes 16000001 xs = some true := by
  rw [law35_BalanceExtremes, awake35]
  simp only [Option.bind_some, if_true, loads_eq _ hx]
  by_cases hp : 1 ≤ (ldl xs 0).length
  · have h := ldl_VL hx hp
    generalize ldl xs 0 = l at h hp ⊢
    rw [if_neg (by omega)]
    have h0 : l[0]? = some l[0] := List.getElem?_eq_getElem (by omega)
    rw [show gx l 0 = gx l ((0 : Nat) : Int) from rfl, gx_nat h0]
    have L0 : LeastTo l 1 0 := ⟨by omega, l[0], h0, fun j x hj hx => by
      obtain rfl : j = 0 := by omega
      rw [h0] at hx; cases hx; exact ⟨by omega, fun h => by omega⟩⟩
    have M0 : MostTo l 1 0 := ⟨by omega, l[0], h0, fun j x hj hx => by
      obtain rfl : j = 0 := by omega
      rw [h0] at hx; cases hx; exact ⟨by omega, fun h => by omega⟩⟩
    obtain ⟨i, j, y, z, e, hi, hj, hy, hz⟩ := ext_loop (law35_BalanceExtremes_J2 16000001 l) l (l.length - 1) 1 0 0 l[0] l[0] (by omega) (by omega) (by omega) L0 M0 h0 h0
    rw [e, law35_BalanceExtremes_J2]
    obtain ⟨i', j', e1, hi', hj'⟩ := bal_extremes 16000001 l h.pos
    obtain rfl := hi.unique hi'
    obtain rfl := hj.unique hj'
    have hv : VB l = true := (VB_iff l).2 h
    have hlen : l.length ≤ 1000000 := by have := h.le; omega
    have f1 : balance_Least 16000001 l = some y.Member := by
      rw [balance_Least, bal_Valid _ l hlen]; simp only [Option.bind_some, hv, if_true, e1, gx_nat hy]
    have f2 : balance_Most 16000001 l = some z.Member := by
      rw [balance_Most, bal_Valid _ l hlen]; simp only [Option.bind_some, hv, if_true, e1, gx_nat hz]
    have by_ := h.act y (List.mem_of_getElem? hy)
    have bz_ := h.act z (List.mem_of_getElem? hz)
    simp only [f1, f2, spread_eq _ h hi hj hy hz, Option.bind_some, if_true]
    rw [w64 (by omega) (by omega)]
    simp
  · have : ldl xs 0 = [] := List.eq_nil_of_length_eq_zero (by omega)
    rw [this]
    have f1 : balance_Least 16000001 [] = some 0 := by rw [balance_Least, empty_not]; rfl
    have f2 : balance_Most 16000001 [] = some 0 := by rw [balance_Most, empty_not]; rfl
    have f3 : balance_Spread 16000001 [] = some 0 := by rw [balance_Spread, empty_not]; rfl
    simp only [List.length_nil, f1, f2, f3, Option.bind_some]
    rfl

end Go.Proofs.Ytpbloecedgddlaa
