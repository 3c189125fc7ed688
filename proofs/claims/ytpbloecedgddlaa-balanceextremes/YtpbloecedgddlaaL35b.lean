/- The plain laws of loads, second part: both texts do the same. -/
import Derived.Test.YtpbloecedgddlaaL35a
set_option linter.unusedSimpArgs false
set_option linter.unusedVariables false
namespace Go.Proofs.Ytpbloecedgddlaa
open Go Go.Proofs Go.Abs

/-! ## Places of members -/

theorem index_L1 (N : Nat) (m : Int) : ∀ (xs : List Load) (v : Nat), slices_IndexFunc_Load_balance_index_1_L1 N m xs v () = ref35_of_L1 m xs v ()
  | [], v => rfl
  | x :: xs, v => by
    simp only [slices_IndexFunc_Load_balance_index_1_L1, balance_index_1, ref35_of_L1, Option.bind_some, index_L1 N m xs]
    by_cases h : x.Member = m <;> simp [h]

theorem index_eq (N : Nat) (l : List Load) (m : Int) : balance_index N l m = ref35_of N l m := by
  simp only [balance_index, slices_IndexFunc_Load_balance_index_1, ref35_of, index_L1]
  cases ref35_of_L1 m l 0 () <;> rfl

theorem of_L1 (m : Int) (l : List Load) : ∀ (xs : List Load) (v : Nat), l.drop v = xs → ref35_of_L1 m xs v () = some (-1) ∨ ∃ (i : Nat) (x : Load), ref35_of_L1 m xs v () = some (i : Int) ∧ l[i]? = some x ∧ x.Member = m
  | [], v, _ => .inl rfl
  | x :: xs, v, hd => by
    obtain ⟨hlt, hx, hd'⟩ := drop_cons hd
    simp only [ref35_of_L1]
    by_cases h : x.Member = m
    · right; exact ⟨v, x, by simp [h], hx, h⟩
    · simp only [h, if_false]
      exact of_L1 m l xs (v + 1) hd'

theorem of_spec (N : Nat) (l : List Load) (m : Int) : ref35_of N l m = some (-1) ∨ ∃ (i : Nat) (x : Load), ref35_of N l m = some (i : Int) ∧ l[i]? = some x ∧ x.Member = m :=
  of_L1 m l l 0 (by simp)

/-! ## Moves -/

theorem apply_L1 (N : Nat) : ∀ (ms : List LoadMove) (v : Nat) (l : List Load), balance_Apply_L1 N ms v l = ref35_Apply_L1 N ms v l
  | [], v, l => rfl
  | m :: ms, v, l => by
    have e : balance_Apply_L1 N ms (v + 1) = ref35_Apply_L1 N ms (v + 1) := funext fun l => apply_L1 N ms (v + 1) l
    simp only [balance_Apply_L1, ref35_Apply_L1, index_eq, e, balance_Apply_J1, balance_Apply_J2, balance_Apply_J3, ref35_Apply_J1, ref35_Apply_J2, ref35_Apply_J3, ref35_Apply_J4]

/-- Numbers that are those of loads. -/
def Bd (l : List Load) : Prop := ∀ x ∈ l, 0 ≤ x.Actors ∧ x.Actors ≤ 1000

theorem Bd.get {l : List Load} (h : Bd l) {i : Nat} {x : Load} (hx : l[i]? = some x) : 0 ≤ x.Actors ∧ x.Actors ≤ 1000 := h x (List.mem_of_getElem? hx)
theorem Bd.set {l : List Load} (h : Bd l) {i : Nat} {x : Load} (hx : 0 ≤ x.Actors ∧ x.Actors ≤ 1000) : Bd (l.set i x) := by
  intro y hy
  rcases List.mem_or_eq_of_mem_set hy with hy | rfl
  · exact h y hy
  · exact hx

theorem get_set_ne {l : List Load} {i j : Nat} {x y : Load} (h : i ≠ j) (hx : l[j]? = some x) : (l.set i y)[j]? = some x := by
  rw [List.getElem?_set_ne h]; exact hx
theorem get_set_eq {l : List Load} {i : Nat} {x y : Load} (hx : l[i]? = some x) : (l.set i y)[i]? = some y := set_get hx

theorem map_set_member {l : List Load} {i : Nat} {x y : Load} (hx : l[i]? = some x) (h : y.Member = x.Member) : (l.set i y).map Load.Member = l.map Load.Member := by
  rw [List.map_set]
  apply List.ext_getElem?
  intro k
  rw [List.getElem?_set]
  by_cases e : i = k
  · subst e
    obtain ⟨hlt, rfl⟩ := List.getElem?_eq_some_iff.1 hx
    simp [hlt, h]
  · simp [e]

theorem apply_total (N : Nat) : ∀ (ms : List LoadMove) (v : Nat) (l : List Load), Bd l → ∃ out e, ref35_Apply_L1 N ms v l = some (out, e) ∧ (e = 0 → Bd out ∧ out.map Load.Member = l.map Load.Member)
  | [], v, l, hb => ⟨l, 0, rfl, fun _ => ⟨hb, rfl⟩⟩
  | m :: ms, v, l, hb => by
    simp only [ref35_Apply_L1, ref35_Apply_J1, ref35_Apply_J2, ref35_Apply_J3, ref35_Apply_J4]
    rcases of_spec N l m.From with h1 | ⟨i, x, h1, hx, hxm⟩
    · rcases of_spec N l m.To with h2 | ⟨j, y, h2, hy, hym⟩
      · rw [h1, h2]; exact ⟨[], 6, by simp, fun h => by simp at h⟩
      · rw [h1, h2]; exact ⟨[], 6, by simp, fun h => by simp at h⟩
    · have hi : ¬ ((i : Int) < 0) := by omega
      rcases of_spec N l m.To with h2 | ⟨j, y, h2, hy, hym⟩
      · rw [h1, h2]; exact ⟨[], 6, by simp [hi], fun h => by simp at h⟩
      · have hj : ¬ ((j : Int) < 0) := by omega
        rw [h1, h2]
        simp only [Option.bind_some, hi, if_false, hj, decide_false, Bool.false_eq_true]
        by_cases hij : (i : Int) = (j : Int)
        · exact ⟨[], 11, by simp [hij], fun h => by simp at h⟩
        · have hne : i ≠ j := by omega
          simp only [hij, if_false, gx_nat hx, gx_nat hy]
          by_cases c1 : x.Actors = 0
          · exact ⟨[], 5, by simp [c1], fun h => by simp at h⟩
          · by_cases c2 : y.Actors = 1000
            · exact ⟨[], 5, by simp [c1, c2], fun h => by simp at h⟩
            · have bx := hb.get hx
              have by' := hb.get hy
              have w1 : IntKind.i64.wrap (x.Actors - 1) = x.Actors - 1 := w64 (by omega) (by omega)
              have w2 : IntKind.i64.wrap (y.Actors + 1) = y.Actors + 1 := w64 (by omega) (by omega)
              simp only [c1, if_false, c2, decide_false, Bool.false_eq_true, Int.toNat_natCast, gx_nat (get_set_ne hne hy), w1, w2]
              obtain ⟨out, e, g1, g2⟩ := apply_total N ms (v + 1) ((l.set i ⟨x.Member, x.Actors - 1⟩).set j ⟨y.Member, y.Actors + 1⟩) ((hb.set (x := ⟨x.Member, x.Actors - 1⟩) ⟨by simp only; omega, by simp only; omega⟩).set ⟨by simp only; omega, by simp only; omega⟩)
              refine ⟨out, e, g1, fun h => ⟨(g2 h).1, ?_⟩⟩
              rw [(g2 h).2, map_set_member (x := y) (y := ⟨y.Member, y.Actors + 1⟩) (get_set_ne hne hy) rfl]
              exact map_set_member hx rfl

theorem same_loads_L1 (l : List Load) : ∀ (xs : List Load) (v : Nat), l.drop v = xs → ref35_SameLoads_L1 l xs v () = some true
  | [], v, _ => rfl
  | x :: xs, v, hd => by
    obtain ⟨hlt, hx, hd'⟩ := drop_cons hd
    simp only [ref35_SameLoads_L1, gx_nat hx, decide_true, Bool.and_self, if_true]
    exact same_loads_L1 l xs (v + 1) hd'
theorem same_loads (N : Nat) (l : List Load) : ref35_SameLoads N l l = some true := by
  simp only [ref35_SameLoads, if_true]
  exact same_loads_L1 l l 0 (by simp)
theorem same_moves_L1 (l : List LoadMove) : ∀ (xs : List LoadMove) (v : Nat), l.drop v = xs → ref35_SameMoves_L1 l xs v () = some true
  | [], v, _ => rfl
  | x :: xs, v, hd => by
    obtain ⟨hlt, hx, hd'⟩ := drop_cons hd
    simp only [ref35_SameMoves_L1, gx_nat hx, decide_true, Bool.and_self, if_true]
    exact same_moves_L1 l xs (v + 1) hd'
theorem same_moves (N : Nat) (l : List LoadMove) : ref35_SameMoves N l l = some true := by
  simp only [ref35_SameMoves, if_true]
  exact same_moves_L1 l l 0 (by simp)

/-! ## The total -/

theorem total_eq (N : Nat) : ∀ (xs : List Load) (v : Nat) (a : Int), balance_Total_L1 xs v a = ref35_Total_L1 xs v a
  | [], v, a => rfl
  | x :: xs, v, a => by simp only [balance_Total_L1, ref35_Total_L1, total_eq N xs]

def sumA (l : List Load) : Int := (l.map Load.Actors).sum

theorem total_L1 : ∀ (xs : List Load) (v : Nat) (a : Int), Bd xs → 0 ≤ a → a + 1000 * xs.length ≤ 1000000000 → ref35_Total_L1 xs v a = some (a + sumA xs)
  | [], v, a, _, _, _ => by simp [ref35_Total_L1, sumA]
  | x :: xs, v, a, hb, h0, h1 => by
    simp only [List.length_cons] at h1
    have hx := hb x (by simp)
    have w : IntKind.i64.wrap (a + x.Actors) = a + x.Actors := w64 (by omega) (by omega)
    simp only [ref35_Total_L1, w]
    rw [total_L1 xs (v + 1) (a + x.Actors) (fun y hy => hb y (by simp [hy])) (by omega) (by omega)]
    simp only [sumA, List.map_cons, List.sum_cons, Int.add_assoc]

theorem VL.bd {l : List Load} (h : VL l) : Bd l := h.act

theorem sumA_bd : ∀ (l : List Load), Bd l → 0 ≤ sumA l ∧ sumA l ≤ 1000 * l.length
  | [], _ => by simp [sumA]
  | x :: xs, hb => by
    have hx := hb x (by simp)
    have := sumA_bd xs (fun y hy => hb y (by simp [hy]))
    simp only [sumA, List.map_cons, List.sum_cons, List.length_cons] at this ⊢
    omega

theorem ref_Total (N : Nat) {l : List Load} (h : VL l) : ref35_Total N l = some (sumA l) := by
  have := h.le
  rw [ref35_Total, ref_Valid N l (by omega), (VB_iff l).2 h]
  simp only [Option.bind_some, if_true]
  rw [total_L1 l 0 0 h.bd (by omega) (by omega)]
  simp
theorem bal_Total (N : Nat) {l : List Load} (h : VL l) : balance_Total N l = some (sumA l) := by
  have := h.le
  rw [balance_Total, bal_Valid N l (by omega), (VB_iff l).2 h]
  simp only [Option.bind_some, if_true, total_eq N]
  rw [total_L1 l 0 0 h.bd (by omega) (by omega)]
  simp

/-! ## The plan -/

def sq (l : List Load) : Int := (l.map fun x => x.Actors * x.Actors).sum
theorem sum_set (f : Load → Int) : ∀ (l : List Load) (i : Nat) (x y : Load), l[i]? = some x → ((l.set i y).map f).sum = (l.map f).sum - f x + f y
  | [], i, x, y, h => by simp at h
  | z :: zs, 0, x, y, h => by simp at h; subst h; simp; omega
  | z :: zs, i + 1, x, y, h => by
    simp only [List.getElem?_cons_succ] at h
    simp only [List.set_cons_succ, List.map_cons, List.sum_cons, sum_set f zs i x y h]
    omega
theorem sq_nonneg : ∀ (l : List Load), 0 ≤ sq l
  | [] => by simp [sq]
  | x :: xs => by
    have := sq_nonneg xs
    simp only [sq, List.map_cons, List.sum_cons] at this ⊢
    have : 0 ≤ x.Actors * x.Actors := by
      rcases Int.le_total 0 x.Actors with h | h
      · exact Int.mul_nonneg h h
      · exact Int.mul_nonneg_of_nonpos_of_nonpos h h
    omega

theorem plan_L1 (N : Nat) : ∀ (n : Nat) (l : List Load) (acc : List LoadMove), Bd l → 1 ≤ l.length → sq l < n → (acc.length : Int) + sq l ≤ 1000000000 →
    ∃ res, balance_Plan_L1 N n (l, acc) = some res ∧ ref35_Plan_L1 N n (l, acc) = some res
  | 0, l, acc, _, _, h, _ => by have := sq_nonneg l; omega
  | n + 1, l, acc, hb, hl, hn, hacc => by
    obtain ⟨i, j, e1, hi, hj⟩ := bal_extremes N l hl
    obtain ⟨i', e2, hi'⟩ := ref_least N l hl
    obtain ⟨j', e3, hj'⟩ := ref_most N l hl
    obtain rfl := hi.unique hi'
    obtain rfl := hj.unique hj'
    obtain ⟨z, hz, hzl⟩ := hi
    obtain ⟨y, hy, hyl⟩ := hj
    have bz := hb.get hz
    have by' := hb.get hy
    have w0 : IntKind.i64.wrap (y.Actors - z.Actors) = y.Actors - z.Actors := w64 (by omega) (by omega)
    simp only [balance_Plan_L1, ref35_Plan_L1, e1, e2, e3, Option.bind_some, gx_nat hy, gx_nat hz, w0]
    by_cases c : y.Actors - z.Actors ≤ 1
    · exact ⟨acc, by simp [c], by simp [c]⟩
    · have hne : j ≠ i := by rintro rfl; rw [hy] at hz; obtain rfl := Option.some.inj hz; omega
      have w1 : IntKind.i64.wrap (y.Actors - 1) = y.Actors - 1 := w64 (by omega) (by omega)
      have w2 : IntKind.i64.wrap (z.Actors + 1) = z.Actors + 1 := w64 (by omega) (by omega)
      have hq := sq_nonneg l
      simp only [c, if_false, Int.toNat_natCast, w1, gx_nat (get_set_ne hne hz), w2, gx_nat (get_set_ne (Ne.symm hne) (get_set_eq (y := ⟨y.Member, y.Actors - 1⟩) hy))]
      have hap : ∀ (β : Type) (k : List LoadMove → Option β), apx 16 acc [⟨y.Member, z.Member⟩] k = k (acc ++ [⟨y.Member, z.Member⟩]) := fun β k => apx_ok (by simp; omega)
      rw [hap, hap]
      have s1 : sq ((l.set j ⟨y.Member, y.Actors - 1⟩).set i ⟨z.Member, z.Actors + 1⟩) = sq l - y.Actors * y.Actors + (y.Actors - 1) * (y.Actors - 1) - z.Actors * z.Actors + (z.Actors + 1) * (z.Actors + 1) := by
        unfold sq
        rw [sum_set _ _ i z _ (get_set_ne hne hz), sum_set _ _ j y _ hy]
      have s2 : (y.Actors - 1) * (y.Actors - 1) = y.Actors * y.Actors - 2 * y.Actors + 1 := by
        rw [Int.sub_mul, Int.mul_sub]; omega
      have s3 : (z.Actors + 1) * (z.Actors + 1) = z.Actors * z.Actors + 2 * z.Actors + 1 := by
        rw [Int.add_mul, Int.mul_add]; omega
      rw [s2, s3] at s1
      exact plan_L1 N n _ _ ((hb.set (x := ⟨y.Member, y.Actors - 1⟩) ⟨by simp only; omega, by simp only; omega⟩).set ⟨by simp only; omega, by simp only; omega⟩) (by simpa using hl) (by omega) (by simp; omega)

theorem sq_bd : ∀ (l : List Load), Bd l → sq l ≤ 1000000 * l.length
  | [], _ => by simp [sq]
  | x :: xs, hb => by
    have hx := hb x (by simp)
    have := sq_bd xs (fun y hy => hb y (by simp [hy]))
    have h2 : x.Actors * x.Actors ≤ 1000 * 1000 := Int.mul_le_mul hx.2 hx.2 hx.1 (by omega)
    simp only [sq, List.map_cons, List.sum_cons, List.length_cons] at this ⊢
    omega

theorem plan_both (N : Nat) (hN : 16000000 < N) {l : List Load} (h : VL l) : ∃ res, balance_Plan N l = some res ∧ ref35_Plan N l = some res := by
  have hle := h.le
  have := sq_bd l h.bd
  obtain ⟨res, h1, h2⟩ := plan_L1 N N l [] h.bd h.pos (by omega) (by simp; omega)
  refine ⟨res, ?_, ?_⟩
  · rw [balance_Plan, bal_Valid N l (by omega), (VB_iff l).2 h]
    simp only [Option.bind_some, if_true, slices_Clone_Load, apn_ok (show l.length * (16 + 1) ≤ 140737488355328 by omega)]
    exact h1
  · rw [ref35_Plan, ref_Valid N l (by omega), (VB_iff l).2 h]
    simp only [Option.bind_some, if_true, apn_ok (show l.length * (16 + 1) ≤ 140737488355328 by omega)]
    exact h2

end Go.Proofs.Ytpbloecedgddlaa
