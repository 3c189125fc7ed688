/- The plain laws of loads, third part: the least number of moves. -/
import Derived.Test.YtpbloecedgddlaaL35b
set_option linter.unusedSimpArgs false
set_option linter.unusedVariables false
namespace Go.Proofs.Ytpbloecedgddlaa
open Go Go.Proofs Go.Abs

/-- Does y stand before x? -/
def bef (x y : Load) : Bool := decide (x.Actors < y.Actors) || (decide (y.Actors = x.Actors) && decide (y.Member < x.Member))
def cnt (l : List Load) (x : Load) : Nat := l.countP (bef x)

theorem needed_L2 (kx : Int → Option Int) (x : Load) : ∀ (xs : List Load) (v : Nat) (c : Nat), c + xs.length ≤ 1000000 → ref35_Needed_L2 kx x xs v (c : Int) = kx ((c + cnt xs x : Nat) : Int)
  | [], v, c, _ => by simp [ref35_Needed_L2, cnt]
  | y :: ys, v, c, h => by
    simp only [List.length_cons] at h
    have w : IntKind.i64.wrap ((c : Int) + 1) = ((c + 1 : Nat) : Int) := by rw [w64 (by omega) (by omega)]; rfl
    simp only [ref35_Needed_L2, ref35_Needed_J1, w, needed_L2 kx x ys (v + 1) c (by omega), needed_L2 kx x ys (v + 1) (c + 1) (by omega), cnt, List.countP_cons, bef]
    by_cases c1 : x.Actors < y.Actors
    · simp only [c1, if_true, decide_true, Bool.true_or]; congr 1; omega
    · by_cases c2 : y.Actors = x.Actors
      · by_cases c3 : y.Member < x.Member
        · simp only [c1, c2, c3, if_true, if_false, decide_true, decide_false, Bool.false_or, Bool.and_self, Int.lt_irrefl]; congr 1; omega
        · simp [c1, c2, c3]
      · simp [c1, c2]

/-- What a member has above its target. -/
def above (q r : Int) (c : Nat) (x : Load) : Int := max 0 (x.Actors - (q + if (c : Int) < r then 1 else 0))
theorem above_bd {q r : Int} {c : Nat} {x : Load} (hq : 0 ≤ q) (hx : 0 ≤ x.Actors ∧ x.Actors ≤ 1000) : 0 ≤ above q r c x ∧ above q r c x ≤ 1000 := by
  unfold above
  split <;> omega

theorem max_if (a : Int) : (if a > 0 then a else 0) = max 0 a := by split <;> omega

theorem ref_needed_L1 (t : Int) (l : List Load) (q r : Int) (hq : Int.tdiv t (l.length : Int) = q) (hr : Int.tmod t (l.length : Int) = r) (h0 : 0 ≤ q ∧ q ≤ 1000000) (hlen : l.length ≤ 1000) : ∀ (xs : List Load) (v : Nat) (a : Int), Bd xs → 0 ≤ a → a + 1000 * xs.length ≤ 1000000000 →
    ref35_Needed_L1 t l xs v a = some (a + (xs.map fun x => above q r (cnt l x) x).sum)
  | [], v, a, _, _, _ => by simp [ref35_Needed_L1]
  | x :: xs, v, a, hb, ha, ha2 => by
    simp only [List.length_cons] at ha2
    have hx := hb x (by simp)
    have hab := above_bd (r := r) (c := cnt l x) h0.1 hx
    have ih := ref_needed_L1 t l q r hq hr h0 hlen xs (v + 1) (a + above q r (cnt l x) x) (fun y hy => hb y (by simp [hy])) (by omega) (by omega)
    have e0 := needed_L2 (ref35_Needed_J3 t l (ref35_Needed_L1 t l xs (v + 1)) a x) x l 0 0 (by omega)
    have w1 : IntKind.i64.wrap q = q := w64 (by omega) (by omega)
    have w2 : IntKind.i64.wrap (q + 1) = q + 1 := w64 (by omega) (by omega)
    have w3 : IntKind.i64.wrap (x.Actors - (q + 1)) = x.Actors - (q + 1) := w64 (by omega) (by omega)
    have w4 : IntKind.i64.wrap (x.Actors - q) = x.Actors - q := w64 (by omega) (by omega)
    simp only [ref35_Needed_L1]
    rw [show ((0 : Nat) : Int) = (0 : Int) from rfl] at e0
    rw [e0]
    simp only [ref35_Needed_J3, ref35_Needed_J2, hq, hr, w1, w2, w3, w4, max_if, Nat.zero_add, List.map_cons, List.sum_cons]
    have e1 : above q r (cnt l x) x = max 0 (x.Actors - (q + if (cnt l x : Int) < r then 1 else 0)) := rfl
    by_cases c : (cnt l x : Int) < r
    · rw [if_pos c] at e1
      simp only [c, if_true]
      rw [← e1, w64 (by omega) (by omega), ih]
      congr 1; omega
    · rw [if_neg c, Int.add_zero] at e1
      simp only [c, if_false]
      rw [← e1, w64 (by omega) (by omega), ih]
      congr 1; omega

/-! ## Sorting -/

def ins (x : Load) : List Load → List Load
  | [] => [x]
  | y :: ys => if y.Actors < x.Actors then x :: y :: ys else y :: ins x ys
theorem ins_length (x : Load) : ∀ l, (ins x l).length = l.length + 1
  | [] => rfl
  | y :: ys => by simp only [ins]; split <;> simp [ins_length x ys]
theorem ins_perm (x : Load) : ∀ l, (ins x l).Perm (x :: l)
  | [] => List.Perm.refl _
  | y :: ys => by
    simp only [ins]
    split
    · exact List.Perm.refl _
    · exact ((ins_perm x ys).cons y).trans (List.Perm.swap x y ys)

theorem sorted_L2 (x : Load) (N : Nat) (l2 : List Load) (rec_ : List Load → Option (List Load)) (hlen : l2.length ≤ 1000000) : ∀ (xs pre : List Load) (v : Nat), l2 = pre ++ xs → v = pre.length →
    balance_sorted_L2 (balance_sorted_J1 l2 x rec_) x N l2 rec_ xs v () = rec_ (pre ++ ins x xs)
  | [], pre, v, h, hv => by
    have : apx 16 l2 [x] (fun l17 => rec_ l17) = rec_ (l2 ++ [x]) := apx_ok (by simp; omega)
    simp only [balance_sorted_L2, balance_sorted_J1, ins]
    rw [this, h]; simp
  | y :: ys, pre, v, h, hv => by
    simp only [balance_sorted_L2, ins]
    by_cases c : y.Actors < x.Actors
    · have hl : l2.length = pre.length + (ys.length + 1) := by rw [h]; simp
      have e : insM 16 l2 ((v : Nat) : Int) [x] (fun l => some l) = some (pre ++ x :: y :: ys) := by
        unfold insM
        rw [if_pos ⟨by omega, by omega, rfl, by omega⟩, Int.toNat_natCast, hv, h]
        simp
      simp only [c, if_true, slices_Insert_Load, e, Option.bind_some]
    · simp only [c, if_false]
      have := sorted_L2 x N l2 rec_ hlen ys (pre ++ [y]) (v + 1) (by rw [h]; simp) (by simp [hv])
      rw [this]; simp

def sortL : List Load → List Load → List Load
  | [], out => out
  | x :: xs, out => sortL xs (ins x out)

theorem sorted_L1 (N : Nat) : ∀ (xs : List Load) (v : Nat) (out : List Load), out.length + xs.length ≤ 1000000 → balance_sorted_L1 N xs v out = some (sortL xs out)
  | [], v, out, _ => rfl
  | x :: xs, v, out, h => by
    simp only [List.length_cons] at h
    simp only [balance_sorted_L1, sortL]
    rw [sorted_L2 x N out _ (by omega) out [] 0 rfl rfl, List.nil_append]
    exact sorted_L1 N xs (v + 1) (ins x out) (by rw [ins_length]; omega)

theorem sortL_perm : ∀ (xs out : List Load), (sortL xs out).Perm (out ++ xs)
  | [], out => by simp [sortL]
  | x :: xs, out => by
    simp only [sortL]
    refine (sortL_perm xs (ins x out)).trans ?_
    refine ((ins_perm x out).append_right xs).trans ?_
    exact (List.perm_middle (l₁ := out) (l₂ := xs) (a := x)).symm

/-- Each before all that come behind it. -/
def Srt (l : List Load) : Prop := l.Pairwise fun a b => bef b a = true

theorem ins_srt (x : Load) : ∀ l, Srt l → (∀ y ∈ l, y.Member < x.Member) → Srt (ins x l)
  | [], _, _ => by simp [ins, Srt]
  | y :: ys, h, hm => by
    have h' := List.pairwise_cons.1 h
    simp only [ins]
    split
    · rename_i c
      refine List.pairwise_cons.2 ⟨?_, h⟩
      intro z hz
      rcases List.mem_cons.1 hz with rfl | hz
      · simp [bef, c]
      · have := h'.1 z hz
        simp only [bef, Bool.or_eq_true, Bool.and_eq_true, decide_eq_true_eq] at this ⊢
        omega
    · rename_i c
      refine List.pairwise_cons.2 ⟨?_, ins_srt x ys h'.2 (fun z hz => hm z (by simp [hz]))⟩
      intro z hz
      rcases List.mem_cons.1 ((ins_perm x ys).mem_iff.1 hz) with rfl | hz
      · have := hm y (by simp)
        simp only [bef, Bool.or_eq_true, Bool.and_eq_true, decide_eq_true_eq]
        omega
      · exact h'.1 z hz

theorem rising_lt : ∀ (l : List Int) (p : Int), risingB p l = true → (∀ x ∈ l, p < x) ∧ l.Pairwise (· < ·)
  | [], p, _ => by simp
  | x :: xs, p, h => by
    simp only [risingB, Bool.and_eq_true, decide_eq_true_eq] at h
    obtain ⟨h1, h2⟩ := rising_lt xs x h.2
    refine ⟨?_, List.pairwise_cons.2 ⟨h1, h2⟩⟩
    intro y hy
    rcases List.mem_cons.1 hy with rfl | hy
    · exact h.1.1
    · have := h1 y hy; omega

theorem sortL_srt : ∀ (xs out : List Load), Srt out → (xs.map Load.Member).Pairwise (· < ·) → (∀ y ∈ out, ∀ x ∈ xs, y.Member < x.Member) → Srt (sortL xs out)
  | [], out, h, _, _ => h
  | x :: xs, out, h, hp, hm => by
    simp only [List.map_cons, List.pairwise_cons, List.mem_map, forall_exists_index, and_imp, forall_apply_eq_imp_iff₂] at hp
    simp only [sortL]
    refine sortL_srt xs (ins x out) (ins_srt x out h (fun y hy => hm y hy x (by simp))) hp.2 ?_
    intro y hy z hz
    rcases List.mem_cons.1 ((ins_perm x out).mem_iff.1 hy) with rfl | hy
    · exact hp.1 z hz
    · exact hm y hy z (by simp [hz])

theorem cnt_perm {l l' : List Load} (h : l.Perm l') (x : Load) : cnt l x = cnt l' x := h.countP_eq _

theorem bef_asymm {x y : Load} (h : bef x y = true) : bef y x = false := by
  simp only [bef, Bool.or_eq_true, Bool.and_eq_true, decide_eq_true_eq] at h
  simp only [bef, Bool.or_eq_false_iff, Bool.and_eq_false_iff, decide_eq_false_iff_not]
  omega
theorem bef_irrefl (x : Load) : bef x x = false := by simp [bef]

/-- In a sorted list so many stand before an element as there are places ahead of it. -/
theorem cnt_sorted {pre suf : List Load} {x : Load} (h : Srt (pre ++ x :: suf)) : cnt (pre ++ x :: suf) x = pre.length := by
  have h1 := List.pairwise_append.1 h
  have h2 := List.pairwise_cons.1 h1.2.1
  unfold cnt
  rw [List.countP_append, List.countP_cons, bef_irrefl]
  have e1 : pre.countP (bef x) = pre.length := List.countP_eq_length.2 (fun y hy => h1.2.2 y hy x (by simp))
  have e2 : suf.countP (bef x) = 0 := List.countP_eq_zero.2 (fun y hy => by rw [bef_asymm (h2.1 y hy)]; simp)
  rw [e1, e2]; simp

theorem bal_needed_L1 (t : Int) (l : List Load) (q r : Int) (hq : Int.tdiv t (l.length : Int) = q) (hr : Int.tmod t (l.length : Int) = r) (h0 : 0 ≤ q ∧ q ≤ 1000000) (s : List Load) (hs : Srt s) : ∀ (xs pre : List Load) (a : Int), s = pre ++ xs → Bd xs → 0 ≤ a → a + 1000 * xs.length ≤ 1000000000 →
    balance_Needed_L1 t l t xs pre.length a = some (a + (xs.map fun x => above q r (cnt s x) x).sum)
  | [], pre, a, _, _, _, _ => by simp [balance_Needed_L1]
  | x :: xs, pre, a, h, hb, ha, ha2 => by
    simp only [List.length_cons] at ha2
    have hx := hb x (by simp)
    have hc : cnt s x = pre.length := by rw [h]; exact cnt_sorted (h ▸ hs)
    have hab := above_bd (r := r) (c := cnt s x) h0.1 hx
    have ih := bal_needed_L1 t l q r hq hr h0 s hs xs (pre ++ [x]) (a + above q r (cnt s x) x) (by rw [h]; simp) (fun y hy => hb y (by simp [hy])) (by omega) (by omega)
    rw [List.length_append, List.length_singleton] at ih
    have w1 : IntKind.i64.wrap q = q := w64 (by omega) (by omega)
    have w2 : IntKind.i64.wrap (q + 1) = q + 1 := w64 (by omega) (by omega)
    have w3 : IntKind.i64.wrap (x.Actors - (q + 1)) = x.Actors - (q + 1) := w64 (by omega) (by omega)
    have w4 : IntKind.i64.wrap (x.Actors - q) = x.Actors - q := w64 (by omega) (by omega)
    simp only [balance_Needed_L1, balance_Needed_J1, hq, hr, w1, w2, w3, w4, max_if, List.map_cons, List.sum_cons]
    have e1 : above q r (cnt s x) x = max 0 (x.Actors - (q + if (cnt s x : Int) < r then 1 else 0)) := rfl
    rw [← hc]
    rw [← hc] at ih
    by_cases c : (cnt s x : Int) < r
    · rw [if_pos c] at e1
      simp only [c, if_true]
      rw [← e1, w64 (by omega) (by omega), ih]
      congr 1; omega
    · rw [if_neg c, Int.add_zero] at e1
      simp only [c, if_false]
      rw [← e1, w64 (by omega) (by omega), ih]
      congr 1; omega

theorem perm_sum {l l' : List Load} (h : l.Perm l') (f : Load → Int) : (l.map f).sum = (l'.map f).sum := by
  induction h with
  | nil => rfl
  | cons x _ ih => simp [ih]
  | swap x y l => simp only [List.map_cons, List.sum_cons]; omega
  | trans _ _ ih1 ih2 => rw [ih1, ih2]

/-- The least number of moves. -/
def need (l : List Load) : Int := (l.map fun x => above (Int.tdiv (sumA l) (l.length : Int)) (Int.tmod (sumA l) (l.length : Int)) (cnt l x) x).sum

theorem needed_both (N : Nat) {l : List Load} (h : VL l) : balance_Needed N l = some (need l) ∧ ref35_Needed N l = some (need l) := by
  have hle := h.le
  have hpos := h.pos
  have hs := sumA_bd l h.bd
  have hne : ¬ ((l.length : Int) = 0) := by omega
  have hq : 0 ≤ Int.tdiv (sumA l) (l.length : Int) ∧ Int.tdiv (sumA l) (l.length : Int) ≤ 1000000 := by
    refine ⟨Int.tdiv_nonneg hs.1 (by omega), ?_⟩
    have := Int.tdiv_le_self (l.length : Int) hs.1
    omega
  constructor
  · have hsrt : Srt (sortL l []) := sortL_srt l [] (by simp [Srt]) (rising_lt _ _ h.ris).2 (by simp)
    have hperm : (sortL l []).Perm l := by simpa using sortL_perm l []
    rw [balance_Needed, bal_Valid N l (by omega), (VB_iff l).2 h]
    simp only [Option.bind_some, if_true, bal_Total N h, dvx, hne, if_false, balance_sorted, sorted_L1 N l 0 [] (by simp; omega)]
    have := bal_needed_L1 (sumA l) l _ _ rfl rfl hq (sortL l []) hsrt (sortL l []) [] 0 rfl (fun y hy => h.bd y (hperm.mem_iff.1 hy)) (by omega) (by rw [hperm.length_eq]; omega)
    rw [List.length_nil] at this
    rw [this, Int.zero_add, perm_sum hperm]
    unfold need
    congr 2
    apply List.map_congr_left
    intro x _
    rw [cnt_perm hperm]
  · rw [ref35_Needed, ref_Valid N l (by omega), (VB_iff l).2 h]
    simp only [Option.bind_some, if_true, ref_Total N h, dvx, hne, if_false]
    rw [ref_needed_L1 (sumA l) l _ _ rfl rfl hq (by omega) l 0 0 h.bd (by omega) (by omega), Int.zero_add]
    rfl

end Go.Proofs.Ytpbloecedgddlaa
