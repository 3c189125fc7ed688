/- The plain laws of loads, first part: what is valid, the extremes, the total. -/
import Derived.Test.YtpbloecedgddlaaM
set_option linter.unusedSimpArgs false
set_option linter.unusedVariables false
namespace Go.Proofs.Ytpbloecedgddlaa
open Go Go.Proofs Go.Abs

theorem w64 {n : Int} (h1 : -9223372036854775808 ≤ n) (h2 : n ≤ 9223372036854775807) : IntKind.i64.wrap n = n := wrap64_in h1 h2

def risingB : Int → List Int → Bool
  | _, [] => true
  | p, x :: xs => decide (p < x) && decide (x ≤ 1000) && risingB x xs

theorem view_L1 : ∀ (xs : List Int) (v : Nat) (p : Int), view_identifiers_L1 xs v p = some (risingB p xs)
  | [], v, p => rfl
  | x :: xs, v, p => by
    simp only [view_identifiers_L1, view_identifiers_J2, view_identifiers_J3, risingB, view_L1 xs]
    by_cases h1 : x ≤ p
    · have h3 : ¬ p < x := by omega
      simp [h1, h3]
    · have h3 : p < x := by omega
      by_cases h2 : 1000 < x
      · have h4 : ¬ x ≤ 1000 := by omega
        simp [h1, h2, h3, h4]
      · have h4 : x ≤ 1000 := by omega
        simp [h1, h2, h3, h4]

def membersB (l : List Int) : Bool := decide (1 ≤ l.length) && decide (l.length ≤ 16) && risingB 0 l

theorem view_members (N : Nat) (l : List Int) : view_ValidMembers N l = some (membersB l) := by
  simp only [view_ValidMembers, view_identifiers, view_identifiers_J1, view_identifiers_J4, view_L1, membersB]
  by_cases h1 : (l.length : Int) < 1
  · have h3 : ¬ 1 ≤ l.length := by omega
    simp [h1, h3]
  · have h3 : 1 ≤ l.length := by omega
    by_cases h2 : 16 < (l.length : Int)
    · have h4 : ¬ l.length ≤ 16 := by omega
      simp [h1, h2, h3, h4]
    · have h4 : l.length ≤ 16 := by omega
      simp [h1, h2, h3, h4]

theorem rising_ref (N : Nat) (a0 : List Int) (hlen : a0.length ≤ 1000000) : ∀ (xs : List Int) (v : Nat) (p : Int), a0.drop v = xs → v ≤ a0.length → 0 ≤ p → (0 < v → a0[v - 1]? = some p) → (v = 0 → p = 0) →
    ref3_Rising_L1 N a0 xs v () = some (risingB p xs)
  | [], v, p, _, _, _, _, _ => rfl
  | x :: xs, v, p, hd, hv, hp, h1, h0 => by
    have hlt : v < a0.length := by
      rcases Nat.lt_or_ge v a0.length with h | h
      · exact h
      · rw [List.drop_eq_nil_of_le h] at hd; cases hd
    have hx : a0[v]? = some x := by
      have := congrArg List.head? hd
      simpa [List.head?_drop] using this
    have hd' : a0.drop (v + 1) = xs := by
      have := congrArg List.tail hd
      simpa [List.tail_drop] using this
    have ih := fun (hx0 : 0 ≤ x) => rising_ref N a0 hlen xs (v + 1) x hd' (by omega) hx0 (fun _ => by simpa using hx) (fun h => by omega)
    simp only [ref3_Rising_L1, ref3_IsID, ref3_Rising_J1, risingB]
    by_cases c1 : 1 ≤ x
    · by_cases c2 : x ≤ 1000
      · rw [ih (by omega)]
        by_cases c3 : 0 < v
        · have e : IntKind.i64.wrap ((v : Int) - 1) = ((v - 1 : Nat) : Int) := by rw [w64 (by omega) (by omega)]; omega
          have c3' : (0 : Int) < (v : Int) := by omega
          rw [e]
          simp only [c1, c2, decide_true, if_true, Option.bind_some, c3', gx_nat (h1 c3)]
          by_cases c4 : x ≤ p
          · have c5 : ¬ p < x := by omega
            simp [c4, c5]
          · have c5 : p < x := by omega
            simp [c4, c5]
        · have c3' : ¬ (0 : Int) < (v : Int) := by omega
          have hp0 := h0 (by omega)
          have c5 : p < x := by omega
          obtain rfl : v = 0 := by omega
          simp [c1, c2, c5]
      · simp [c1, c2]
    · have c5 : ¬ p < x := by omega
      simp [c1, c5]

theorem ref_members (N : Nat) (l : List Int) (h : l.length ≤ 1000000) : ref3_ValidMembers N l = some (membersB l) := by
  simp only [ref3_ValidMembers, ref3_Rising, membersB, rising_ref N l h l 0 0 (by simp) (by omega) (by omega) (fun h => by omega) (fun _ => rfl)]
  by_cases h1 : 1 ≤ l.length
  · have h2 : (1 : Int) ≤ (l.length : Int) := by omega
    by_cases h3 : l.length ≤ 16
    · have h4 : (l.length : Int) ≤ 16 := by omega
      simp [h1, h2, h3, h4]
    · have h4 : ¬ (l.length : Int) ≤ 16 := by omega
      simp [h1, h2, h3, h4]
  · have h2 : ¬ (1 : Int) ≤ (l.length : Int) := by omega
    simp [h1, h2]

def actorsB (l : List Load) : Bool := l.all fun x => decide (0 ≤ x.Actors) && decide (x.Actors ≤ 1000)
def VB (l : List Load) : Bool := actorsB l && membersB (l.map Load.Member)

theorem bal_L1 (kx : List Int → Option Bool) : ∀ (l : List Load) (v : Nat) (acc : List Int), acc.length + l.length ≤ 1000000 → balance_Valid_L1 kx l v acc = if actorsB l = true then kx (acc ++ l.map Load.Member) else some false
  | [], v, acc, _ => by simp [balance_Valid_L1, actorsB]
  | x :: xs, v, acc, h => by
    simp only [List.length_cons] at h
    have hx : apx 8 acc [x.Member] (fun l12 => balance_Valid_L1 kx xs (v + 1) l12) = balance_Valid_L1 kx xs (v + 1) (acc ++ [x.Member]) := apx_ok (by simp; omega)
    simp only [balance_Valid_L1, balance_Valid_J1, balance_Valid_J2]
    rw [hx, bal_L1 kx xs (v + 1) (acc ++ [x.Member]) (by simp; omega)]
    by_cases h1 : x.Actors < 0
    · have h3 : ¬ 0 ≤ x.Actors := by omega
      simp [h1, actorsB, h3]
    · have h3 : 0 ≤ x.Actors := by omega
      by_cases h2 : 1000 < x.Actors
      · have h4 : ¬ x.Actors ≤ 1000 := by omega
        simp [h1, actorsB, h3, h2, h4]
      · have h4 : x.Actors ≤ 1000 := by omega
        simp [h1, actorsB, h3, h2, h4]

theorem ref_L1 (kx : List Int → Option Bool) : ∀ (l : List Load) (v : Nat) (acc : List Int), acc.length + l.length ≤ 1000000 → ref35_Valid_L1 kx l v acc = if actorsB l = true then kx (acc ++ l.map Load.Member) else some false
  | [], v, acc, _ => by simp [ref35_Valid_L1, actorsB]
  | x :: xs, v, acc, h => by
    simp only [List.length_cons] at h
    have hx : apx 8 acc [x.Member] (fun l12 => ref35_Valid_L1 kx xs (v + 1) l12) = ref35_Valid_L1 kx xs (v + 1) (acc ++ [x.Member]) := apx_ok (by simp; omega)
    simp only [ref35_Valid_L1, ref35_Valid_J1, ref35_Valid_J2]
    rw [hx, ref_L1 kx xs (v + 1) (acc ++ [x.Member]) (by simp; omega)]
    by_cases h1 : x.Actors < 0
    · have h3 : ¬ 0 ≤ x.Actors := by omega
      simp [h1, actorsB, h3]
    · have h3 : 0 ≤ x.Actors := by omega
      by_cases h2 : 1000 < x.Actors
      · have h4 : ¬ x.Actors ≤ 1000 := by omega
        simp [h1, actorsB, h3, h2, h4]
      · have h4 : x.Actors ≤ 1000 := by omega
        simp [h1, actorsB, h3, h2, h4]

theorem bal_Valid (N : Nat) (l : List Load) (h : l.length ≤ 1000000) : balance_Valid N l = some (VB l) := by
  rw [balance_Valid, bal_L1 _ _ _ _ (by simpa using h)]
  simp only [List.nil_append, balance_Valid_J3, view_members, VB]
  cases actorsB l <;> simp

theorem ref_Valid (N : Nat) (l : List Load) (h : l.length ≤ 1000000) : ref35_Valid N l = some (VB l) := by
  rw [ref35_Valid, ref_L1 _ _ _ _ (by simpa using h)]
  simp only [List.nil_append, ref35_Valid_J3, ref_members N _ (by simpa using h : (l.map Load.Member).length ≤ 1000000), VB]
  cases actorsB l <;> simp

/-- What is known of a valid list. -/
structure VL (l : List Load) : Prop where
  pos : 1 ≤ l.length
  le : l.length ≤ 16
  act : ∀ x ∈ l, 0 ≤ x.Actors ∧ x.Actors ≤ 1000
  ris : risingB 0 (l.map Load.Member) = true

theorem VB_iff (l : List Load) : VB l = true ↔ VL l := by
  simp only [VB, actorsB, membersB, Bool.and_eq_true, List.all_eq_true, decide_eq_true_eq, List.length_map]
  constructor
  · rintro ⟨h1, ⟨h2, h3⟩, h4⟩; exact ⟨h2, h3, h1, h4⟩
  · intro h; exact ⟨h.act, ⟨h.pos, h.le⟩, h.ris⟩

/-! ## The extremes -/

/-- The first place of the least. -/
def IsLeast (l : List Load) (i : Nat) : Prop := ∃ y, l[i]? = some y ∧ ∀ j x, l[j]? = some x → y.Actors ≤ x.Actors ∧ (j < i → y.Actors < x.Actors)
def IsMost (l : List Load) (i : Nat) : Prop := ∃ y, l[i]? = some y ∧ ∀ j x, l[j]? = some x → x.Actors ≤ y.Actors ∧ (j < i → x.Actors < y.Actors)

theorem IsLeast.unique {l : List Load} {i j : Nat} (h1 : IsLeast l i) (h2 : IsLeast l j) : i = j := by
  obtain ⟨y, hy, h1⟩ := h1
  obtain ⟨z, hz, h2⟩ := h2
  rcases Nat.lt_trichotomy i j with h | h | h
  · have := (h2 i y hy).2 h; have := (h1 j z hz).1; omega
  · exact h
  · have := (h1 j z hz).2 h; have := (h2 i y hy).1; omega
theorem IsMost.unique {l : List Load} {i j : Nat} (h1 : IsMost l i) (h2 : IsMost l j) : i = j := by
  obtain ⟨y, hy, h1⟩ := h1
  obtain ⟨z, hz, h2⟩ := h2
  rcases Nat.lt_trichotomy i j with h | h | h
  · have := (h2 i y hy).2 h; have := (h1 j z hz).1; omega
  · exact h
  · have := (h1 j z hz).2 h; have := (h2 i y hy).1; omega

/-- .. among the first n. -/
def LeastTo (l : List Load) (n i : Nat) : Prop := i < l.length ∧ ∃ y, l[i]? = some y ∧ ∀ j x, j < n → l[j]? = some x → y.Actors ≤ x.Actors ∧ (j < i → y.Actors < x.Actors)
def MostTo (l : List Load) (n i : Nat) : Prop := i < l.length ∧ ∃ y, l[i]? = some y ∧ ∀ j x, j < n → l[j]? = some x → x.Actors ≤ y.Actors ∧ (j < i → x.Actors < y.Actors)

theorem LeastTo.done {l : List Load} {n i : Nat} (h : LeastTo l n i) (hn : l.length ≤ n) : IsLeast l i := by
  obtain ⟨_, y, h1, h2⟩ := h
  exact ⟨y, h1, fun j x hx => h2 j x (by have := (List.getElem?_eq_some_iff.1 hx).1; omega) hx⟩
theorem MostTo.done {l : List Load} {n i : Nat} (h : MostTo l n i) (hn : l.length ≤ n) : IsMost l i := by
  obtain ⟨_, y, h1, h2⟩ := h
  exact ⟨y, h1, fun j x hx => h2 j x (by have := (List.getElem?_eq_some_iff.1 hx).1; omega) hx⟩

theorem LeastTo.stay {l : List Load} {n i : Nat} {x y : Load} (h : LeastTo l n i) (hi : i ≤ n) (hx : l[n]? = some x) (hy : l[i]? = some y) (hc : ¬ x.Actors < y.Actors) : LeastTo l (n + 1) i := by
  obtain ⟨h0, y', h1, h2⟩ := h
  rw [hy] at h1; obtain rfl := Option.some.inj h1
  refine ⟨h0, y, hy, fun j z hj hz => ?_⟩
  by_cases e : j = n
  · subst e; rw [hx] at hz; obtain rfl := Option.some.inj hz; exact ⟨by omega, fun h => by omega⟩
  · exact h2 j z (by omega) hz
theorem LeastTo.take {l : List Load} {n i : Nat} {x y : Load} (h : LeastTo l n i) (hx : l[n]? = some x) (hy : l[i]? = some y) (hc : x.Actors < y.Actors) : LeastTo l (n + 1) n := by
  obtain ⟨h0, y', h1, h2⟩ := h
  rw [hy] at h1; obtain rfl := Option.some.inj h1
  refine ⟨(List.getElem?_eq_some_iff.1 hx).1, x, hx, fun j z hj hz => ?_⟩
  by_cases e : j = n
  · subst e; rw [hx] at hz; obtain rfl := Option.some.inj hz; exact ⟨by omega, fun h => by omega⟩
  · have := (h2 j z (by omega) hz).1; exact ⟨by omega, fun _ => by omega⟩
theorem MostTo.stay {l : List Load} {n i : Nat} {x y : Load} (h : MostTo l n i) (hi : i ≤ n) (hx : l[n]? = some x) (hy : l[i]? = some y) (hc : ¬ y.Actors < x.Actors) : MostTo l (n + 1) i := by
  obtain ⟨h0, y', h1, h2⟩ := h
  rw [hy] at h1; obtain rfl := Option.some.inj h1
  refine ⟨h0, y, hy, fun j z hj hz => ?_⟩
  by_cases e : j = n
  · subst e; rw [hx] at hz; obtain rfl := Option.some.inj hz; exact ⟨by omega, fun h => by omega⟩
  · exact h2 j z (by omega) hz
theorem MostTo.take {l : List Load} {n i : Nat} {x y : Load} (h : MostTo l n i) (hx : l[n]? = some x) (hy : l[i]? = some y) (hc : y.Actors < x.Actors) : MostTo l (n + 1) n := by
  obtain ⟨h0, y', h1, h2⟩ := h
  rw [hy] at h1; obtain rfl := Option.some.inj h1
  refine ⟨(List.getElem?_eq_some_iff.1 hx).1, x, hx, fun j z hj hz => ?_⟩
  by_cases e : j = n
  · subst e; rw [hx] at hz; obtain rfl := Option.some.inj hz; exact ⟨by omega, fun h => by omega⟩
  · have := (h2 j z (by omega) hz).1; exact ⟨by omega, fun _ => by omega⟩

theorem drop_cons {α : Type} {l : List α} {v : Nat} {x : α} {xs : List α} (h : l.drop v = x :: xs) : v < l.length ∧ l[v]? = some x ∧ l.drop (v + 1) = xs := by
  have hlt : v < l.length := by
    rcases Nat.lt_or_ge v l.length with h' | h'
    · exact h'
    · rw [List.drop_eq_nil_of_le h'] at h; cases h
  refine ⟨hlt, ?_, ?_⟩
  · have := congrArg List.head? h; simpa [List.head?_drop] using this
  · have := congrArg List.tail h; simpa [List.tail_drop] using this

theorem extremes_L1 (l : List Load) : ∀ (xs : List Load) (v : Nat) (a b : Nat), l.drop v = xs → v ≤ l.length → (a ≤ v ∧ b ≤ v) → LeastTo l v a → MostTo l v b → ∃ i j : Nat, balance_extremes_L1 l xs v ((a : Int), (b : Int)) = some ((i : Int), (j : Int)) ∧ IsLeast l i ∧ IsMost l j
  | [], v, a, b, hd, hv, _, ha, hb => by
    have : l.length ≤ v := by
      have := congrArg List.length hd; simp at this; omega
    exact ⟨a, b, rfl, ha.done this, hb.done this⟩
  | x :: xs, v, a, b, hd, hv, hab, ha, hb => by
    obtain ⟨hlt, hx, hd'⟩ := drop_cons hd
    obtain ⟨ya, hya⟩ : ∃ y, l[a]? = some y := ⟨l[a]'ha.1, by simp [ha.1]⟩
    obtain ⟨yb, hyb⟩ : ∃ y, l[b]? = some y := ⟨l[b]'hb.1, by simp [hb.1]⟩
    simp only [balance_extremes_L1, balance_extremes_J1, gx_nat hya, gx_nat hyb]
    by_cases c1 : x.Actors < ya.Actors
    · simp only [c1, if_true]
      by_cases c2 : yb.Actors < x.Actors
      · simp only [c2, if_true]
        exact extremes_L1 l xs (v + 1) v v hd' (by omega) (by omega) (ha.take hx hya c1) (hb.take hx hyb c2)
      · simp only [c2, if_false]
        exact extremes_L1 l xs (v + 1) v b hd' (by omega) (by omega) (ha.take hx hya c1) (hb.stay hab.2 hx hyb c2)
    · simp only [c1, if_false]
      by_cases c2 : yb.Actors < x.Actors
      · simp only [c2, if_true]
        exact extremes_L1 l xs (v + 1) a v hd' (by omega) (by omega) (ha.stay hab.1 hx hya c1) (hb.take hx hyb c2)
      · simp only [c2, if_false]
        exact extremes_L1 l xs (v + 1) a b hd' (by omega) (by omega) (ha.stay hab.1 hx hya c1) (hb.stay hab.2 hx hyb c2)

theorem bal_extremes (N : Nat) (l : List Load) (h : 1 ≤ l.length) : ∃ i j : Nat, balance_extremes N l = some ((i : Int), (j : Int)) ∧ IsLeast l i ∧ IsMost l j := by
  have h0 : l[0]? = some (l[0]'(by omega)) := by simp [show 0 < l.length by omega]
  exact extremes_L1 l l 0 0 0 (by simp) (by omega) (by omega) ⟨by omega, _, h0, fun j x hj => by omega⟩ ⟨by omega, _, h0, fun j x hj => by omega⟩

theorem least_L1 (l : List Load) : ∀ (m v a : Nat), v + m = l.length → a ≤ v → LeastTo l v a → ∃ i : Nat, ref35_least_L1 l m v (a : Int) = some (i : Int) ∧ IsLeast l i
  | 0, v, a, hv, _, ha => ⟨a, rfl, ha.done (by omega)⟩
  | m + 1, v, a, hv, hav, ha => by
    have hx : l[v]? = some (l[v]'(by omega)) := by simp [show v < l.length by omega]
    obtain ⟨ya, hya⟩ : ∃ y, l[a]? = some y := ⟨l[a]'ha.1, by simp [ha.1]⟩
    simp only [ref35_least_L1, gx_nat hx, gx_nat hya]
    by_cases c1 : (l[v]'(by omega)).Actors < ya.Actors
    · simp only [c1, if_true]
      exact least_L1 l m (v + 1) v (by omega) (by omega) (ha.take hx hya c1)
    · simp only [c1, if_false]
      exact least_L1 l m (v + 1) a (by omega) (by omega) (ha.stay hav hx hya c1)
theorem most_L1 (l : List Load) : ∀ (m v a : Nat), v + m = l.length → a ≤ v → MostTo l v a → ∃ i : Nat, ref35_most_L1 l m v (a : Int) = some (i : Int) ∧ IsMost l i
  | 0, v, a, hv, _, ha => ⟨a, rfl, ha.done (by omega)⟩
  | m + 1, v, a, hv, hav, ha => by
    have hx : l[v]? = some (l[v]'(by omega)) := by simp [show v < l.length by omega]
    obtain ⟨ya, hya⟩ : ∃ y, l[a]? = some y := ⟨l[a]'ha.1, by simp [ha.1]⟩
    simp only [ref35_most_L1, gx_nat hx, gx_nat hya]
    by_cases c1 : ya.Actors < (l[v]'(by omega)).Actors
    · simp only [c1, if_true]
      exact most_L1 l m (v + 1) v (by omega) (by omega) (ha.take hx hya c1)
    · simp only [c1, if_false]
      exact most_L1 l m (v + 1) a (by omega) (by omega) (ha.stay hav hx hya c1)

theorem one_least {l : List Load} (h : 1 ≤ l.length) : LeastTo l 1 0 := by
  have h0 : l[0]? = some (l[0]'(by omega)) := by simp [show 0 < l.length by omega]
  refine ⟨by omega, _, h0, fun j x hj hx => ?_⟩
  obtain rfl : j = 0 := by omega
  rw [h0] at hx; obtain rfl := Option.some.inj hx; exact ⟨Int.le_refl _, fun h => by omega⟩
theorem one_most {l : List Load} (h : 1 ≤ l.length) : MostTo l 1 0 := by
  have h0 : l[0]? = some (l[0]'(by omega)) := by simp [show 0 < l.length by omega]
  refine ⟨by omega, _, h0, fun j x hj hx => ?_⟩
  obtain rfl : j = 0 := by omega
  rw [h0] at hx; obtain rfl := Option.some.inj hx; exact ⟨Int.le_refl _, fun h => by omega⟩

theorem ref_least (N : Nat) (l : List Load) (h : 1 ≤ l.length) : ∃ i : Nat, ref35_least N l = some (i : Int) ∧ IsLeast l i :=
  least_L1 l (l.length - 1) 1 0 (by omega) (by omega) (one_least h)
theorem ref_most (N : Nat) (l : List Load) (h : 1 ≤ l.length) : ∃ i : Nat, ref35_most N l = some (i : Int) ∧ IsMost l i :=
  most_L1 l (l.length - 1) 1 0 (by omega) (by omega) (one_most h)

end Go.Proofs.Ytpbloecedgddlaa
