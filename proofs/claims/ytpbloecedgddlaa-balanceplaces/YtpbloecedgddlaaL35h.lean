/- The law BalancePlaces, in plain words. -/
import Derived.Test.YtpbloecedgddlaaL35g
set_option linter.unusedSimpArgs false
set_option linter.unusedVariables false
namespace Go.Proofs.Ytpbloecedgddlaa
open Go Go.Proofs Go.Abs

theorem spread_mm (N : Nat) {l : List Load} (h : VL l) : ∃ y z, y ∈ l ∧ z ∈ l ∧ (∀ u ∈ l, y.Actors ≤ u.Actors ∧ u.Actors ≤ z.Actors) ∧ balance_Spread N l = some (z.Actors - y.Actors) := by
  obtain ⟨i, j, e1, hi, hj⟩ := bal_extremes N l h.pos
  obtain ⟨y, hy⟩ := hi.get
  obtain ⟨z, hz⟩ := hj.get
  refine ⟨y, z, List.mem_of_getElem? hy, List.mem_of_getElem? hz, fun u hu => ?_, spread_eq N h hi hj hy hz⟩
  obtain ⟨k, hk⟩ := List.getElem?_of_mem hu
  obtain ⟨z', hz', h1⟩ := hj
  obtain ⟨y', hy', h2⟩ := hi
  rw [hz] at hz'; obtain rfl := Option.some.inj hz'
  rw [hy] at hy'; obtain rfl := Option.some.inj hy'
  exact ⟨(h2 k u hk).1, (h1 k u hk).1⟩

theorem place_one (N : Nat) {l : List Load} (h : VL l) : ∃ i y, l[i]? = some y ∧ (∀ u ∈ l, y.Actors ≤ u.Actors) ∧ balance_Least N l = some y.Member ∧
    ((y.Actors = 1000 ∧ balance_Place N l = some ([], 0, 5)) ∨ (y.Actors ≤ 999 ∧ balance_Place N l = some (l.set i ⟨y.Member, y.Actors + 1⟩, y.Member, 0))) := by
  obtain ⟨i, j, e1, hi, hj⟩ := bal_extremes N l h.pos
  obtain ⟨y, hy⟩ := hi.get
  have hle := h.le
  have by' := h.bd.get hy
  have hmin : ∀ u ∈ l, y.Actors ≤ u.Actors := fun u hu => by obtain ⟨k, hk⟩ := List.getElem?_of_mem hu; obtain ⟨y', hy', h⟩ := hi; rw [hy] at hy'; obtain rfl := Option.some.inj hy'; exact (h k u hk).1
  refine ⟨i, y, hy, hmin, ?_, ?_⟩
  · rw [balance_Least, bal_Valid N l (by omega), (VB_iff l).2 h]
    simp only [Option.bind_some, if_true, e1, gx_nat hy]
  · rw [balance_Place, bal_Valid N l (by omega), (VB_iff l).2 h]
    simp only [Option.bind_some, if_true, e1, gx_nat hy, slices_Clone_Load, apn_ok (show l.length * (16 + 1) ≤ 140737488355328 by omega)]
    by_cases c : y.Actors = 1000
    · left; exact ⟨c, by rw [if_pos c]⟩
    · right
      have w : IntKind.i64.wrap (y.Actors + 1) = y.Actors + 1 := w64 (by omega) (by omega)
      exact ⟨by omega, by rw [if_neg c, w]; rfl⟩

theorem sumA_full {l : List Load} (h : ∀ u ∈ l, 1000 ≤ u.Actors) (hb : Bd l) : sumA l = 1000 * l.length := by
  have h1 := sum_ge (f := fun _ => 1000) (g := Load.Actors) l (fun u hu => h u hu)
  have h2 := sum_ge (f := Load.Actors) (g := fun _ => 1000) l (fun u hu => (hb u hu).2)
  rw [sum_const] at h1 h2
  unfold sumA; omega

theorem all_top {l : List Load} {t : Int} (h : ∀ u ∈ l, u.Actors ≤ t) (hs : t * l.length ≤ sumA l) : ∀ u ∈ l, u.Actors = t := by
  intro u hu
  rcases Int.lt_or_le u.Actors t with c | c
  · have := sum_gt (f := Load.Actors) (g := fun _ => t) l h ⟨u, hu, c⟩
    rw [sum_const] at this
    unfold sumA at hs; omega
  · have := h u hu; omega

theorem bal_Total_len (N : Nat) {l : List Load} (h : VL l) : balance_Total N l = some (sumA l) := bal_Total N h

theorem places_loop (N : Nat) (a1 T fill gaps top cnt_ len : Int) (hc : Int.tmod a1 4000 = cnt_) (hc2 : 0 ≤ cnt_ ∧ cnt_ < 4000) (hT : 0 ≤ T ∧ T ≤ 16000) (hfill : fill = top * len - T) (hgaps : gaps = 1000 * len - T) :
    ∀ (n : Nat) (k : Nat) (l : List Load) (b s : Int), VL l → (l.length : Int) = len → sumA l = T + k → balance_Spread N l = some s → b = max s 1 → ((∀ u ∈ l, u.Actors ≤ top) ∨ (∀ u ∈ l, ∀ v ∈ l, u.Actors - v.Actors ≤ 1)) → (k : Int) ≤ cnt_ → cnt_ < n + k →
    law35_BalancePlaces_L4 a1 N T fill gaps n (l, b, (k : Int)) = some true
  | 0, k, l, b, s, _, _, _, _, _, _, h1, h2 => by omega
  | n + 1, k, l, b, s, hv, hlen, hsum, hs, hb, hinv, h1, h2 => by
    have w0 : IntKind.i64.wrap cnt_ = cnt_ := w64 (by omega) (by omega)
    simp only [law35_BalancePlaces_L4, hc, w0]
    by_cases c1 : (k : Int) < cnt_
    · rw [if_pos c1]
      obtain ⟨i, y, hy, hmin, hleast, hpl⟩ := place_one N hv
      have my := List.mem_of_getElem? hy
      have by' := hv.bd.get hy
      rcases hpl with ⟨e1000, hpl⟩ | ⟨e999, hpl⟩
      · rw [hpl]
        have := sumA_full (l := l) (fun u hu => by have := hmin u hu; omega) hv.bd
        have hk : (k : Int) = gaps := by omega
        simp [hk]
      · rw [hpl]
        have hv' : VL (l.set i ⟨y.Member, y.Actors + 1⟩) := ⟨by simpa using hv.pos, by simpa using hv.le, hv.bd.set ⟨by simp only; omega, by simp only; omega⟩, by rw [map_set_member (y := ⟨y.Member, y.Actors + 1⟩) hy rfl]; exact hv.ris⟩
        have hsum' : sumA (l.set i ⟨y.Member, y.Actors + 1⟩) = T + (k + 1 : Nat) := by
          have := sum_set Load.Actors l i y ⟨y.Member, y.Actors + 1⟩ hy
          simp only at this
          unfold sumA at hsum ⊢
          omega
        obtain ⟨y0, z0, m1, m2, mm, e0⟩ := spread_mm N hv
        obtain ⟨y1, z1, m3, m4, mm1, e1⟩ := spread_mm N hv'
        rw [hs] at e0
        obtain rfl := Option.some.inj e0
        -- what the new list's members are
        have hnew : ∀ u ∈ l.set i ⟨y.Member, y.Actors + 1⟩, u ∈ l ∨ u.Actors = y.Actors + 1 := by
          intro u hu
          rcases List.mem_or_eq_of_mem_set hu with h | rfl
          · exact .inl h
          · exact .inr rfl
        have hyy := (mm y my).1
        have hyy2 := hmin y0 m1
        have hlo : y.Actors ≤ y1.Actors := by
          rcases hnew y1 m3 with h | h
          · exact hmin y1 h
          · omega
        have hhi : z1.Actors ≤ max z0.Actors (y.Actors + 1) := by
          rcases hnew z1 m4 with h | h
          · have := (mm z1 h).2; omega
          · omega
        have hyz := (mm y my).2
        have hspr : z1.Actors - y1.Actors ≤ b := by omega
        have hinv' : (∀ u ∈ l.set i ⟨y.Member, y.Actors + 1⟩, u.Actors ≤ top) ∨ (∀ u ∈ l.set i ⟨y.Member, y.Actors + 1⟩, ∀ v ∈ l.set i ⟨y.Member, y.Actors + 1⟩, u.Actors - v.Actors ≤ 1) := by
          have hsp1 : z0.Actors ≤ y.Actors + 1 → ∀ u ∈ l.set i ⟨y.Member, y.Actors + 1⟩, ∀ v ∈ l.set i ⟨y.Member, y.Actors + 1⟩, u.Actors - v.Actors ≤ 1 := by
            intro hz u hu v hv
            have h3 := (mm1 u hu).2
            have h4 := (mm1 v hv).1
            omega
          rcases hinv with hinv | hinv
          · by_cases c : y.Actors < top
            · left
              intro u hu
              rcases hnew u hu with h | h
              · exact hinv u h
              · omega
            · right
              have := hinv z0 m2
              exact hsp1 (by omega)
          · right
            have := hinv z0 m2 y my
            exact hsp1 (by omega)
        have wT : IntKind.i64.wrap (T + (k : Int)) = T + k := w64 (by omega) (by omega)
        have wT1 : IntKind.i64.wrap (T + (k : Int) + 1) = T + k + 1 := w64 (by omega) (by omega)
        have wk : IntKind.i64.wrap ((k : Int) + 1) = ((k + 1 : Nat) : Int) := by rw [w64 (by omega) (by omega)]; rfl
        have hrec := places_loop N a1 T fill gaps top cnt_ len hc hc2 hT hfill hgaps n (k + 1) (l.set i ⟨y.Member, y.Actors + 1⟩) (if 1 > z1.Actors - y1.Actors then 1 else z1.Actors - y1.Actors) (z1.Actors - y1.Actors) hv' (by simpa using hlen) hsum' e1 (by split <;> omega) hinv' (by omega) (by omega)
        simp only [Option.bind_some, if_true, hleast, bal_Total N hv', hsum', wT, wT1, e1, law35_BalancePlaces_J1, law35_BalancePlaces_J3, law35_BalancePlaces_J2, wk, hrec]
        rw [if_pos (show T + ((k + 1 : Nat) : Int) = T + (k : Int) + 1 by omega)]
        rw [show decide (b < z1.Actors - y1.Actors) = false from decide_eq_false (by omega)]
        simp only [Bool.false_eq_true, if_false]
        by_cases c2 : fill ≤ ((k + 1 : Nat) : Int)
        · rw [if_pos c2]
          have hle1 : z1.Actors - y1.Actors ≤ 1 := by
            rcases hinv' with h | h
            · have hl' : ((l.set i ⟨y.Member, y.Actors + 1⟩).length : Int) = len := by simpa using hlen
              have := all_top h (by rw [hl', hsum']; omega)
              have h5 := this z1 m4
              have h6 := this y1 m3
              omega
            · exact h z1 m4 y1 m3
          rw [show decide (1 < z1.Actors - y1.Actors) = false from decide_eq_false (by omega)]
          simp
        · rw [if_neg c2]
    · rw [if_neg c1]

theorem gaps_L1 (kx : Int → Option Bool) : ∀ (xs : List Load) (v : Nat) (a : Int), Bd xs → 0 ≤ a → a + 1000 * xs.length ≤ 1000000 → law35_BalancePlaces_L1 kx xs v a = kx (a + (1000 * xs.length - sumA xs))
  | [], v, a, _, _, _ => by simp [law35_BalancePlaces_L1, sumA]
  | x :: xs, v, a, hb, h0, h1 => by
    simp only [List.length_cons] at h1
    have hx := hb x (by simp)
    have w1 : IntKind.i64.wrap (1000 - x.Actors) = 1000 - x.Actors := w64 (by omega) (by omega)
    have w2 : IntKind.i64.wrap (a + (1000 - x.Actors)) = a + (1000 - x.Actors) := w64 (by omega) (by omega)
    simp only [law35_BalancePlaces_L1, w1, w2]
    rw [gaps_L1 kx xs (v + 1) _ (fun y hy => hb y (by simp [hy])) (by omega) (by omega)]
    congr 1
    simp only [sumA, List.map_cons, List.sum_cons, List.length_cons]
    omega

theorem top_L2 (kx : Int → Option Bool) : ∀ (xs : List Load) (v : Nat) (a : Int), ∃ t, a ≤ t ∧ (∀ u ∈ xs, u.Actors ≤ t) ∧ (t = a ∨ ∃ u ∈ xs, t = u.Actors) ∧ law35_BalancePlaces_L2 kx xs v a = kx t
  | [], v, a => ⟨a, Int.le_refl _, by simp, .inl rfl, rfl⟩
  | x :: xs, v, a => by
    obtain ⟨t, h1, h2, h3, h4⟩ := top_L2 kx xs (v + 1) (if x.Actors > a then x.Actors else a)
    refine ⟨t, by split at h1 <;> omega, ?_, ?_, h4⟩
    · intro u hu
      rcases List.mem_cons.1 hu with rfl | hu
      · split at h1 <;> omega
      · exact h2 u hu
    · rcases h3 with h3 | ⟨u, hu, h3⟩
      · split at h3
        · exact .inr ⟨x, by simp, h3⟩
        · exact .inl h3
      · exact .inr ⟨u, by simp [hu], h3⟩

theorem fill_L3 (kx : Int → Option Bool) (t : Int) (ht : 0 ≤ t ∧ t ≤ 1000) : ∀ (xs : List Load) (v : Nat) (a : Int), Bd xs → (∀ u ∈ xs, u.Actors ≤ t) → 0 ≤ a → a + 1000 * xs.length ≤ 1000000 → law35_BalancePlaces_L3 kx t xs v a = kx (a + (t * xs.length - sumA xs))
  | [], v, a, _, _, _, _ => by simp [law35_BalancePlaces_L3, sumA]
  | x :: xs, v, a, hb, hm, h0, h1 => by
    simp only [List.length_cons] at h1
    have hx := hb x (by simp)
    have hx2 := hm x (by simp)
    have w1 : IntKind.i64.wrap (t - x.Actors) = t - x.Actors := w64 (by omega) (by omega)
    have w2 : IntKind.i64.wrap (a + (t - x.Actors)) = a + (t - x.Actors) := w64 (by omega) (by omega)
    simp only [law35_BalancePlaces_L3, w1, w2]
    rw [fill_L3 kx t ht xs (v + 1) _ (fun y hy => hb y (by simp [hy])) (fun y hy => hm y (by simp [hy])) (by omega) (by omega)]
    congr 1
    simp only [sumA, List.map_cons, List.sum_cons, List.length_cons]
    rw [show ((xs.length + 1 : Nat) : Int) = (xs.length : Int) + 1 from rfl, Int.mul_add]
    omega

theorem plain_BalancePlaces (xs : List Int) (c : Int) (hx : ∀ x ∈ xs, 0 ≤ x ∧ x ≤ 65535) (hc : 0 ≤ c ∧ c ≤ 65535) : law35_BalancePlaces 16000001 xs c = some true := by
  simp only [law35_BalancePlaces, awake35, Option.bind_some, if_true, loads_eq _ hx]
  by_cases c0 : ((ldl xs 0).length : Int) = 0
  · rw [if_pos c0]
  · rw [if_neg c0]
    have hv : VL (ldl xs 0) := ldl_VL hx (by omega)
    generalize ldl xs 0 = l at hv c0
    have hle := hv.le
    have hs := sumA_bd l hv.bd
    obtain ⟨y, z, m1, m2, mm, e0⟩ := spread_mm 16000001 hv
    rw [e0]
    simp only [Option.bind_some]
    rw [gaps_L1 _ l 0 0 hv.bd (by omega) (by omega)]
    simp only [law35_BalancePlaces_J6]
    obtain ⟨t, t1, t2, t3, t4⟩ := top_L2 (law35_BalancePlaces_J5 16000001 l c (0 + (1000 * l.length - sumA l)) (z.Actors - y.Actors)) l 0 0
    rw [t4]
    simp only [law35_BalancePlaces_J5]
    have ht : 0 ≤ t ∧ t ≤ 1000 := ⟨t1, by
      rcases t3 with h | ⟨u, hu, h⟩
      · omega
      · have := hv.bd u hu; omega⟩
    rw [fill_L3 _ t ht l 0 0 hv.bd t2 (by omega) (by omega)]
    simp only [law35_BalancePlaces_J4, bal_Total _ hv, Option.bind_some]
    have hm1 := Int.tmod_nonneg 4000 hc.1
    have hm2 := Int.tmod_lt_of_pos c (show (0 : Int) < 4000 by omega)
    have := places_loop 16000001 c (sumA l) (0 + (t * l.length - sumA l)) (0 + (1000 * l.length - sumA l)) t _ l.length rfl ⟨hm1, hm2⟩ (by omega) (by omega) (by omega) 16000001 0 l (if 1 > z.Actors - y.Actors then 1 else z.Actors - y.Actors) _ hv rfl (by simp) e0 (by split <;> omega) (.inl t2) (by omega) (by omega)
    exact this

end Go.Proofs.Ytpbloecedgddlaa
