/- The law BalanceLeast, in plain words. -/
import Derived.Test.YtpbloecedgddlaaL35f
set_option linter.unusedSimpArgs false
set_option linter.unusedVariables false
namespace Go.Proofs.Ytpbloecedgddlaa
open Go Go.Proofs Go.Abs

theorem spread_need (N : Nat) {l : List Load} (h : VL l) : ∃ s, balance_Spread N l = some s ∧ 0 ≤ s ∧ s ≤ 1000 ∧ (s ≤ 1 → need l = 0) := by
  obtain ⟨i, j, e1, hi, hj⟩ := bal_extremes N l h.pos
  obtain ⟨y, hy⟩ := hi.get
  obtain ⟨z, hz⟩ := hj.get
  have hmax : ∀ u ∈ l, u.Actors ≤ z.Actors := fun u hu => by obtain ⟨k, hk⟩ := List.getElem?_of_mem hu; obtain ⟨z', hz', h⟩ := hj; rw [hz] at hz'; obtain rfl := Option.some.inj hz'; exact (h k u hk).1
  have hmin : ∀ u ∈ l, y.Actors ≤ u.Actors := fun u hu => by obtain ⟨k, hk⟩ := List.getElem?_of_mem hu; obtain ⟨y', hy', h⟩ := hi; rw [hy] at hy'; obtain rfl := Option.some.inj hy'; exact (h k u hk).1
  have by' := h.bd.get hy
  have bz := h.bd.get hz
  have := hmax y (List.mem_of_getElem? hy)
  exact ⟨_, spread_eq N h hi hj hy hz, by omega, by omega, fun hs => need_even h (List.mem_of_getElem? hz) (List.mem_of_getElem? hy) hmax hmin hs⟩

theorem apply_one (N : Nat) {l : List Load} (h : VL l) (m : LoadMove) : ∃ out e, balance_Apply N l [m] = some (out, e) ∧ (e = 0 → VL out ∧ need l - 1 ≤ need out) := by
  rw [bal_Apply N h]
  simp only [ref35_Apply_L1, ref35_Apply_J1, ref35_Apply_J2, ref35_Apply_J3, ref35_Apply_J4]
  rcases of_spec N l m.From with h1 | ⟨i, x, h1, hx, hxm⟩
  · rcases of_spec N l m.To with h2 | ⟨j, y, h2, hy, hym⟩
    · rw [h1, h2]; exact ⟨[], 6, by simp, fun h => by simp at h⟩
    · rw [h1, h2]; exact ⟨[], 6, by simp, fun h => by simp at h⟩
  · have hi : ¬ ((i : Int) < 0) := by omega
    rcases of_spec N l m.To with h2 | ⟨j, y, h2, hy, hym⟩
    · rw [h1, h2]; exact ⟨[], 6, by simp [hi], fun h => by simp at h⟩
    · have hj : ¬ ((j : Int) < 0) := by omega
      rw [h1, h2]
      simp only [Option.bind_some, hi, if_false, hj, decide_false, Bool.false_eq_true]
      by_cases hij : (i : Int) = (j : Int)
      · exact ⟨[], 11, by simp [hij], fun h => by simp at h⟩
      · have hne : i ≠ j := by omega
        simp only [hij, if_false, gx_nat hx, gx_nat hy]
        by_cases c1 : x.Actors = 0
        · exact ⟨[], 5, by simp [c1], fun h => by simp at h⟩
        · by_cases c2 : y.Actors = 1000
          · exact ⟨[], 5, by simp [c1, c2], fun h => by simp at h⟩
          · have bx := h.bd.get hx
            have by' := h.bd.get hy
            have w1 : IntKind.i64.wrap (x.Actors - 1) = x.Actors - 1 := w64 (by omega) (by omega)
            have w2 : IntKind.i64.wrap (y.Actors + 1) = y.Actors + 1 := w64 (by omega) (by omega)
            simp only [c1, if_false, c2, decide_false, Bool.false_eq_true, Int.toNat_natCast, gx_nat (get_set_ne hne hy), w1, w2]
            exact ⟨mv l i j x y, 0, rfl, fun _ => ⟨mv_VL h hne hx hy (by omega) (by omega), need_mv h hne hx hy (by omega) (by omega)⟩⟩

theorem gx_ok {α β : Type} {l : List α} {i : Int} {k : α → Option β} (h0 : 0 ≤ i) (h1 : i < l.length) : ∃ x, l[i.toNat]? = some x ∧ gx l i k = k x := by
  have hlt : i.toNat < l.length := by omega
  refine ⟨l[i.toNat], by simp [hlt], ?_⟩
  unfold gx
  rw [if_pos ⟨h0, h1⟩]
  simp [hlt]

theorem least_loop (N : Nat) (a1 : List Int) (ha : ∀ x ∈ a1, 0 ≤ x ∧ x ≤ 65535) (hlen : a1.length ≤ 3000) (r3 : List Load) (hr : VL r3) : ∀ (n k : Nat) (l : List Load) (c : Int), VL l → a1.length + 1 < n + k → k ≤ a1.length + 1 → 0 ≤ c → c ≤ k → need r3 - c ≤ need l →
    law35_BalanceLeast_L1 a1 N r3 n (l, c, (k : Int)) = some true
  | 0, k, l, c, _, h1, h2, _, _, _ => by omega
  | n + 1, k, l, c, hl, h1, h2, h3, h4, h5 => by
    simp only [law35_BalanceLeast_L1]
    by_cases c1 : (k : Int) ≤ (a1.length : Int)
    · rw [if_pos c1]
      obtain ⟨s, hs, hs0, hs1, hs2⟩ := spread_need N hl
      have J3 : law35_BalanceLeast_J3 (k : Int) a1 r3 N l (law35_BalanceLeast_L1 a1 N r3 n) c = some true := by
        simp only [law35_BalanceLeast_J3]
        by_cases c2 : (k : Int) = (a1.length : Int)
        · rw [if_pos c2]
        · rw [if_neg c2]
          obtain ⟨x, hx, ex⟩ := gx_ok (l := a1) (i := (k : Int)) (k := fun x20 =>
            dvx ((r3.length : Nat) : Int) <| gx r3 (Int.tmod (IntKind.i64.wrap x20) ((r3.length : Nat) : Int)) fun x21 =>
            dvx ((r3.length : Nat) : Int) <| gx r3 (Int.tmod (IntKind.i64.wrap (IntKind.u16.wrap (Int.tdiv x20 32))) ((r3.length : Nat) : Int)) fun x22 =>
            (balance_Apply N l [(LoadMove.mk x21.Member x22.Member)]).bind fun r23 =>
            if r23.2 = 0 then (((law35_BalanceLeast_L1 a1 N r3 n (r23.1, (IntKind.i64.wrap (c + 1)), IntKind.i64.wrap ((k : Int) + 1))))) else (((law35_BalanceLeast_L1 a1 N r3 n (l, c, IntKind.i64.wrap ((k : Int) + 1)))))) (by omega) (by omega)
          rw [ex]
          have hxb := ha x (List.mem_of_getElem? hx)
          have hp := hr.pos
          have hle := hr.le
          have d0 : ¬ ((r3.length : Int) = 0) := by omega
          have w1 : IntKind.i64.wrap x = x := w64 (by omega) (by omega)
          have t1 := Int.tdiv_nonneg hxb.1 (show (0 : Int) ≤ 32 by omega)
          have t2 := Int.tdiv_le_self 32 hxb.1
          have w2 : IntKind.u16.wrap (Int.tdiv x 32) = Int.tdiv x 32 := wrap_in ⟨by simp [IntKind.min, IntKind.signed]; omega, by simp [IntKind.max, IntKind.signed, IntKind.bits]; omega⟩
          have w3 : IntKind.i64.wrap (Int.tdiv x 32) = Int.tdiv x 32 := w64 (by omega) (by omega)
          have w4 : IntKind.i64.wrap (c + 1) = c + 1 := w64 (by omega) (by omega)
          have w5 : IntKind.i64.wrap ((k : Int) + 1) = ((k + 1 : Nat) : Int) := by rw [w64 (by omega) (by omega)]; rfl
          simp only [dvx, d0, if_false, w1, w2, w3, w4, w5]
          obtain ⟨u, hu, eu⟩ := gx_ok (l := r3) (i := Int.tmod x (r3.length : Int)) (k := fun x21 =>
            gx r3 (Int.tmod (Int.tdiv x 32) ((r3.length : Nat) : Int)) fun x22 =>
            (balance_Apply N l [(LoadMove.mk x21.Member x22.Member)]).bind fun r23 =>
            if r23.2 = 0 then law35_BalanceLeast_L1 a1 N r3 n (r23.1, c + 1, ((k + 1 : Nat) : Int)) else law35_BalanceLeast_L1 a1 N r3 n (l, c, ((k + 1 : Nat) : Int))) (Int.tmod_nonneg _ hxb.1) (Int.tmod_lt_of_pos _ (by omega))
          rw [eu]
          obtain ⟨v, hv, ev⟩ := gx_ok (l := r3) (i := Int.tmod (Int.tdiv x 32) (r3.length : Int)) (k := fun x22 =>
            (balance_Apply N l [(LoadMove.mk u.Member x22.Member)]).bind fun r23 =>
            if r23.2 = 0 then law35_BalanceLeast_L1 a1 N r3 n (r23.1, c + 1, ((k + 1 : Nat) : Int)) else law35_BalanceLeast_L1 a1 N r3 n (l, c, ((k + 1 : Nat) : Int))) (Int.tmod_nonneg _ t1) (Int.tmod_lt_of_pos _ (by omega))
          rw [ev]
          obtain ⟨out, e, g1, g2⟩ := apply_one N hl ⟨u.Member, v.Member⟩
          rw [g1]
          simp only [Option.bind_some]
          by_cases c3 : e = 0
          · rw [if_pos c3]
            obtain ⟨g3, g4⟩ := g2 c3
            exact least_loop N a1 ha hlen r3 hr n (k + 1) out (c + 1) g3 (by omega) (by omega) (by omega) (by omega) (by omega)
          · rw [if_neg c3]
            exact least_loop N a1 ha hlen r3 hr n (k + 1) l c hl (by omega) (by omega) (by omega) (by omega) (by omega)
      rw [hs]
      simp only [Option.bind_some, law35_BalanceLeast_J2, J3]
      by_cases c4 : s ≤ 1
      · have := hs2 c4
        rw [if_pos c4, (needed_both N hr).1]
        simp only [Option.bind_some]
        rw [show decide (c < need r3) = false from decide_eq_false (by omega)]
        rfl
      · rw [if_neg c4]
        rfl
    · rw [if_neg c1]

theorem plain_BalanceLeast (xs ms : List Int) (hx : ∀ x ∈ xs, 0 ≤ x ∧ x ≤ 65535) (hm : ∀ x ∈ ms, 0 ≤ x ∧ x ≤ 65535) : law35_BalanceLeast 16000001 xs ms = some true := by
  simp only [law35_BalanceLeast, awake35, Option.bind_some, if_true, loads_eq _ hx, law35_BalanceLeast_J1, law35_BalanceLeast_J4]
  by_cases c : ((ldl xs 0).length : Int) = 0
  · simp [c]
  · rw [if_neg c]
    by_cases c2 : 3000 < (ms.length : Int)
    · simp [c2]
    · rw [show decide (3000 < (ms.length : Int)) = false from decide_eq_false c2]
      simp only [Bool.false_eq_true, if_false]
      have hv : VL (ldl xs 0) := ldl_VL hx (by omega)
      exact least_loop 16000001 ms hm (by omega) _ hv 16000001 0 _ 0 hv (by omega) (by omega) (by omega) (by omega) (by omega)

end Go.Proofs.Ytpbloecedgddlaa
