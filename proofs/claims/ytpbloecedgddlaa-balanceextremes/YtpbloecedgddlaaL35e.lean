/- The plain laws of loads: the least number of moves, said without ranks; what a move does to it. -/
import Derived.Test.YtpbloecedgddlaaL35d
set_option linter.unusedSimpArgs false
set_option linter.unusedVariables false
namespace Go.Proofs.Ytpbloecedgddlaa
open Go Go.Proofs Go.Abs

def Fq (q : Int) (l : List Load) : Int := (l.map fun x => max 0 (x.Actors - q)).sum
def Dq (q : Int) (l : List Load) : Int := (l.map fun x => max 0 (q - x.Actors)).sum
def Kq (q : Int) (l : List Load) : Int := (l.map fun x => if q < x.Actors then 1 else 0).sum

theorem Srt.tail_le {x : Load} {xs : List Load} (h : Srt (x :: xs)) : ∀ y ∈ xs, y.Actors ≤ x.Actors := by
  intro y hy
  have := (List.pairwise_cons.1 h).1 y hy
  simp only [bef, Bool.or_eq_true, Bool.and_eq_true, decide_eq_true_eq] at this
  omega

theorem Kq_zero {q : Int} : ∀ (l : List Load), (∀ y ∈ l, y.Actors ≤ q) → Kq q l = 0
  | [], _ => rfl
  | x :: xs, h => by
    have h1 := h x (by simp)
    have h2 := Kq_zero xs (fun y hy => h y (by simp [hy]))
    simp only [Kq, List.map_cons, List.sum_cons] at h2 ⊢
    rw [h2]
    simp [show ¬ q < x.Actors by omega]
theorem Kq_nonneg {q : Int} : ∀ (l : List Load), 0 ≤ Kq q l
  | [] => Int.le_refl _
  | x :: xs => by
    have h2 := Kq_nonneg (q := q) xs
    simp only [Kq, List.map_cons, List.sum_cons] at h2 ⊢
    split <;> omega

theorem above_sum (q r : Int) (s : List Load) (hs : Srt s) : ∀ (xs pre : List Load), s = pre ++ xs → (xs.map fun x => above q r (cnt s x) x).sum = Fq q xs - min (max 0 (r - pre.length)) (Kq q xs)
  | [], pre, _ => by simp [Fq, Kq]; omega
  | x :: xs, pre, h => by
    have hc : cnt s x = pre.length := by rw [h]; exact cnt_sorted (h ▸ hs)
    have ih := above_sum q r s hs xs (pre ++ [x]) (by rw [h]; simp)
    rw [List.length_append, List.length_singleton] at ih
    have hk := Kq_nonneg (q := q) xs
    have hst : Srt (x :: xs) := (List.pairwise_append.1 (h ▸ hs : Srt (pre ++ x :: xs))).2.1
    simp only [List.map_cons, List.sum_cons, ih, hc]
    have e1 : Fq q (x :: xs) = max 0 (x.Actors - q) + Fq q xs := by simp [Fq]
    have e2 : Kq q (x :: xs) = (if q < x.Actors then 1 else 0) + Kq q xs := by simp [Kq]
    rw [e1, e2]
    unfold above
    by_cases c1 : q < x.Actors
    · rw [if_pos c1]
      by_cases c2 : (pre.length : Int) < r
      · rw [if_pos c2]; omega
      · rw [if_neg c2]; omega
    · have hz : Kq q xs = 0 := Kq_zero xs (fun y hy => by have := hst.tail_le y hy; omega)
      rw [if_neg c1, hz]
      by_cases c2 : (pre.length : Int) < r
      · rw [if_pos c2]; omega
      · rw [if_neg c2]; omega

theorem need_eq {l : List Load} (h : VL l) : need l = Fq (Int.tdiv (sumA l) l.length) l - min (Int.tmod (sumA l) l.length) (Kq (Int.tdiv (sumA l) l.length) l) := by
  have hsrt : Srt (sortL l []) := sortL_srt l [] (by simp [Srt]) (rising_lt _ _ h.ris).2 (by simp)
  have hperm : (sortL l []).Perm l := by simpa using sortL_perm l []
  have hs := sumA_bd l h.bd
  have hr : 0 ≤ Int.tmod (sumA l) l.length := Int.tmod_nonneg _ hs.1
  have := above_sum (Int.tdiv (sumA l) l.length) (Int.tmod (sumA l) l.length) (sortL l []) hsrt (sortL l []) [] rfl
  unfold need
  rw [← perm_sum hperm]
  have e : ((sortL l []).map fun x => above (Int.tdiv (sumA l) l.length) (Int.tmod (sumA l) l.length) (cnt l x) x).sum = ((sortL l []).map fun x => above (Int.tdiv (sumA l) l.length) (Int.tmod (sumA l) l.length) (cnt (sortL l []) x) x).sum := by
    congr 1
    apply List.map_congr_left
    intro x _
    rw [cnt_perm hperm]
  rw [e, this, List.length_nil]
  have e1 : Fq (Int.tdiv (sumA l) l.length) (sortL l []) = Fq (Int.tdiv (sumA l) l.length) l := perm_sum hperm _
  have e2 : Kq (Int.tdiv (sumA l) l.length) (sortL l []) = Kq (Int.tdiv (sumA l) l.length) l := perm_sum hperm _
  rw [e1, e2]
  omega

/-! ## Sums -/

theorem sum_ge {f g : Load → Int} : ∀ (l : List Load), (∀ x ∈ l, f x ≤ g x) → (l.map f).sum ≤ (l.map g).sum
  | [], _ => Int.le_refl _
  | x :: xs, h => by
    have h1 := h x (by simp)
    have h2 := sum_ge xs (fun y hy => h y (by simp [hy]))
    simp only [List.map_cons, List.sum_cons]; omega
theorem sum_gt {f g : Load → Int} : ∀ (l : List Load), (∀ x ∈ l, f x ≤ g x) → (∃ x ∈ l, f x < g x) → (l.map f).sum < (l.map g).sum
  | [], _, h => by obtain ⟨x, hx, _⟩ := h; cases hx
  | x :: xs, h, he => by
    have h1 := h x (by simp)
    have h2 := sum_ge xs (fun y hy => h y (by simp [hy]))
    simp only [List.map_cons, List.sum_cons]
    obtain ⟨y, hy, hlt⟩ := he
    rcases List.mem_cons.1 hy with rfl | hy
    · omega
    · have := sum_gt xs (fun y hy => h y (by simp [hy])) ⟨y, hy, hlt⟩
      omega
theorem sum_const (c : Int) : ∀ (l : List Load), (l.map fun _ => c).sum = c * l.length
  | [] => by simp
  | x :: xs => by
    have := sum_const c xs
    simp only [List.map_cons, List.sum_cons, this, List.length_cons]
    rw [show ((xs.length + 1 : Nat) : Int) = (xs.length : Int) + 1 from rfl, Int.mul_add]; omega

/-- What the members have above a number, less what they lack. -/
theorem FD (q : Int) : ∀ (l : List Load), sumA l - q * l.length = Fq q l - Dq q l
  | [] => by simp [sumA, Fq, Dq]
  | x :: xs => by
    have := FD q xs
    simp only [sumA, Fq, Dq, List.map_cons, List.sum_cons, List.length_cons] at this ⊢
    rw [show ((xs.length + 1 : Nat) : Int) = (xs.length : Int) + 1 from rfl, Int.mul_add]; omega

theorem Dq_nonneg (q : Int) (l : List Load) : 0 ≤ Dq q l := by
  have := sum_ge (f := fun _ => 0) (g := fun x => max 0 (q - x.Actors)) l (fun x _ => by omega)
  rw [sum_const] at this; unfold Dq; omega
theorem Fq_ge_Kq (q : Int) (l : List Load) : Kq q l ≤ Fq q l := sum_ge l (fun x _ => by split <;> omega)
theorem Fq_gt_Kq {q : Int} {l : List Load} (h : ∃ x ∈ l, q + 2 ≤ x.Actors) : Kq q l < Fq q l := by
  refine sum_gt l (fun x _ => by split <;> omega) ?_
  obtain ⟨x, hx, h⟩ := h
  exact ⟨x, hx, by rw [if_pos (by omega)]; omega⟩
theorem Fq_eq_Kq {q : Int} {l : List Load} (h : ∀ x ∈ l, x.Actors ≤ q + 1) : Fq q l = Kq q l := by
  have h1 := Fq_ge_Kq q l
  have h2 : Fq q l ≤ Kq q l := sum_ge l (fun x hx => by have := h x hx; split <;> omega)
  omega
theorem Dq_pos {q : Int} {l : List Load} (h : ∃ x ∈ l, x.Actors < q) : 0 < Dq q l := by
  have := sum_gt (f := fun _ => 0) (g := fun x => max 0 (q - x.Actors)) l (fun x _ => by omega) (by obtain ⟨x, hx, h⟩ := h; exact ⟨x, hx, by omega⟩)
  rw [sum_const] at this; unfold Dq; omega
theorem Dq_zero {q : Int} {l : List Load} (h : ∀ x ∈ l, q ≤ x.Actors) : Dq q l = 0 := by
  have h1 := Dq_nonneg q l
  have := sum_ge (f := fun x => max 0 (q - x.Actors)) (g := fun _ => 0) l (fun x hx => by have := h x hx; omega)
  rw [sum_const] at this; unfold Dq at *; omega
theorem Fq_zero {q : Int} {l : List Load} (h : ∀ x ∈ l, x.Actors ≤ q) : Fq q l ≤ 0 := by
  have := sum_ge (f := fun x => max 0 (x.Actors - q)) (g := fun _ => 0) l (fun x hx => by have := h x hx; omega)
  rw [sum_const] at this; unfold Fq; omega
theorem Fq_len {q : Int} {l : List Load} (h : ∀ x ∈ l, q + 1 ≤ x.Actors) : (l.length : Int) ≤ Fq q l := by
  have := sum_ge (f := fun _ => 1) (g := fun x => max 0 (x.Actors - q)) l (fun x hx => by have := h x hx; omega)
  rw [sum_const] at this; unfold Fq; omega
theorem Fq_nonneg (q : Int) (l : List Load) : 0 ≤ Fq q l := by
  have := sum_ge (f := fun _ => 0) (g := fun x => max 0 (x.Actors - q)) l (fun x _ => by omega)
  rw [sum_const] at this; unfold Fq; omega

/-- Quotient and rest of the total. -/
theorem qr {l : List Load} (h : VL l) : ∃ q r : Int, Int.tdiv (sumA l) l.length = q ∧ Int.tmod (sumA l) l.length = r ∧ sumA l = q * l.length + r ∧ 0 ≤ r ∧ r < l.length := by
  have hs := sumA_bd l h.bd
  have hp := h.pos
  refine ⟨_, _, rfl, rfl, ?_, Int.tmod_nonneg _ hs.1, Int.tmod_lt_of_pos _ (by omega)⟩
  have := Int.mul_tdiv_add_tmod (sumA l) (l.length : Int)
  rw [Int.mul_comm] at this
  exact this.symm

/-! ## A move -/

/-- One actor from place i to place j. -/
def mv (l : List Load) (i j : Nat) (x y : Load) : List Load := (l.set i ⟨x.Member, x.Actors - 1⟩).set j ⟨y.Member, y.Actors + 1⟩

theorem mv_length (l : List Load) (i j : Nat) (x y : Load) : (mv l i j x y).length = l.length := by simp [mv]
theorem mv_sum (f : Load → Int) {l : List Load} {i j : Nat} {x y : Load} (hne : i ≠ j) (hx : l[i]? = some x) (hy : l[j]? = some y) :
    ((mv l i j x y).map f).sum = (l.map f).sum - f x + f ⟨x.Member, x.Actors - 1⟩ - f y + f ⟨y.Member, y.Actors + 1⟩ := by
  unfold mv
  rw [sum_set _ _ j y _ (get_set_ne hne hy), sum_set _ _ i x _ hx]
theorem mv_member {l : List Load} {i j : Nat} {x y : Load} (hne : i ≠ j) (hx : l[i]? = some x) (hy : l[j]? = some y) : (mv l i j x y).map Load.Member = l.map Load.Member := by
  unfold mv
  rw [map_set_member (x := y) (y := ⟨y.Member, y.Actors + 1⟩) (get_set_ne hne hy) rfl]
  exact map_set_member hx rfl
theorem mv_VL {l : List Load} {i j : Nat} {x y : Load} (h : VL l) (hne : i ≠ j) (hx : l[i]? = some x) (hy : l[j]? = some y) (h1 : 1 ≤ x.Actors) (h2 : y.Actors ≤ 999) : VL (mv l i j x y) := by
  refine ⟨by rw [mv_length]; exact h.pos, by rw [mv_length]; exact h.le, ?_, by rw [mv_member hne hx hy]; exact h.ris⟩
  have bx := h.bd.get hx
  have by' := h.bd.get hy
  exact (h.bd.set (x := ⟨x.Member, x.Actors - 1⟩) ⟨by simp only; omega, by simp only; omega⟩).set ⟨by simp only; omega, by simp only; omega⟩
theorem mv_total {l : List Load} {i j : Nat} {x y : Load} (hne : i ≠ j) (hx : l[i]? = some x) (hy : l[j]? = some y) : sumA (mv l i j x y) = sumA l := by
  have e := mv_sum Load.Actors hne hx hy
  simp only at e
  unfold sumA; omega

/-- A move takes at most one from the number that is needed. -/
theorem need_mv {l : List Load} {i j : Nat} {x y : Load} (h : VL l) (hne : i ≠ j) (hx : l[i]? = some x) (hy : l[j]? = some y) (h1 : 1 ≤ x.Actors) (h2 : y.Actors ≤ 999) : need l - 1 ≤ need (mv l i j x y) := by
  rw [need_eq h, need_eq (mv_VL h hne hx hy h1 h2), mv_total hne hx hy, mv_length]
  obtain ⟨q, r, e1, e2, e3, e4, e5⟩ := qr h
  rw [e1, e2]
  have f1 : Fq q (mv l i j x y) = _ := mv_sum _ hne hx hy
  have f2 : Kq q (mv l i j x y) = _ := mv_sum _ hne hx hy
  rw [f1, f2]
  show Fq q l - min r (Kq q l) - 1 ≤ Fq q l - _ + _ - _ + _ - min r (Kq q l - _ + _ - _ + _)
  simp only
  split <;> split <;> split <;> split <;> omega

/-- A planned move takes one. -/
theorem need_plan {l : List Load} {i j : Nat} {x y : Load} (h : VL l) (hx : l[i]? = some x) (hy : l[j]? = some y) (hmax : ∀ z ∈ l, z.Actors ≤ x.Actors) (hmin : ∀ z ∈ l, y.Actors ≤ z.Actors) (hd : 2 ≤ x.Actors - y.Actors) : need (mv l i j x y) = need l - 1 := by
  have hne : i ≠ j := by rintro rfl; rw [hx] at hy; obtain rfl := Option.some.inj hy; omega
  have bx := h.bd.get hx
  have by' := h.bd.get hy
  have mx := List.mem_of_getElem? hx
  have my := List.mem_of_getElem? hy
  rw [need_eq h, need_eq (mv_VL h hne hx hy (by omega) (by omega)), mv_total hne hx hy, mv_length]
  obtain ⟨q, r, e1, e2, e3, e4, e5⟩ := qr h
  rw [e1, e2]
  have f1 : Fq q (mv l i j x y) = _ := mv_sum _ hne hx hy
  have f2 : Kq q (mv l i j x y) = _ := mv_sum _ hne hx hy
  have hFD := FD q l
  have hD := Dq_nonneg q l
  have hxq : q < x.Actors := by
    rcases Int.lt_or_le q x.Actors with c | c
    · exact c
    · have := Fq_zero (q := q) (l := l) (fun z hz => by have := hmax z hz; omega)
      have := Dq_pos (q := q) (l := l) ⟨y, my, by omega⟩
      omega
  have hyq : y.Actors ≤ q := by
    rcases Int.lt_or_le q y.Actors with c | c
    · have := Fq_len (q := q) (l := l) (fun z hz => by have := hmin z hz; omega)
      have := Dq_zero (q := q) (l := l) (fun z hz => by have := hmin z hz; omega)
      omega
    · exact c
  have hK := Fq_ge_Kq q l
  rw [f1, f2]
  show Fq q l - _ + _ - _ + _ - min r (Kq q l - _ + _ - _ + _) = _
  simp only
  by_cases c1 : y.Actors = q
  · have hD0 := Dq_zero (q := q) (l := l) (fun z hz => by have := hmin z hz; omega)
    have hgt := Fq_gt_Kq (q := q) (l := l) ⟨x, mx, by omega⟩
    rw [if_pos hxq, if_pos (show q < x.Actors - 1 by omega), if_neg (show ¬ q < y.Actors by omega), if_pos (show q < y.Actors + 1 by omega)]
    omega
  · rw [if_pos hxq, if_neg (show ¬ q < y.Actors by omega), if_neg (show ¬ q < y.Actors + 1 by omega)]
    by_cases c2 : x.Actors = q + 1
    · have hE := Fq_eq_Kq (q := q) (l := l) (fun z hz => by have := hmax z hz; omega)
      have hDp := Dq_pos (q := q) (l := l) ⟨y, my, by omega⟩
      rw [if_neg (show ¬ q < x.Actors - 1 by omega)]
      omega
    · rw [if_pos (show q < x.Actors - 1 by omega)]
      omega

/-- With a spread of at most one none is needed. -/
theorem need_even {l : List Load} {x y : Load} (h : VL l) (mx : x ∈ l) (my : y ∈ l) (hmax : ∀ z ∈ l, z.Actors ≤ x.Actors) (hmin : ∀ z ∈ l, y.Actors ≤ z.Actors) (hd : x.Actors - y.Actors ≤ 1) : need l = 0 := by
  rw [need_eq h]
  obtain ⟨q, r, e1, e2, e3, e4, e5⟩ := qr h
  rw [e1, e2]
  have hFD := FD q l
  have hD := Dq_nonneg q l
  have hF := Fq_nonneg q l
  have hK := Fq_ge_Kq q l
  have hK0 := Kq_nonneg (q := q) l
  have hyq : y.Actors ≤ q := by
    rcases Int.lt_or_le q y.Actors with c | c
    · have := Fq_len (q := q) (l := l) (fun z hz => by have := hmin z hz; omega)
      have := Dq_zero (q := q) (l := l) (fun z hz => by have := hmin z hz; omega)
      omega
    · exact c
  by_cases c : x.Actors ≤ q
  · have := Fq_zero (q := q) (l := l) (fun z hz => by have := hmax z hz; omega)
    omega
  · have hE := Fq_eq_Kq (q := q) (l := l) (fun z hz => by have := hmax z hz; omega)
    have := Dq_zero (q := q) (l := l) (fun z hz => by have := hmin z hz; omega)
    omega

end Go.Proofs.Ytpbloecedgddlaa
