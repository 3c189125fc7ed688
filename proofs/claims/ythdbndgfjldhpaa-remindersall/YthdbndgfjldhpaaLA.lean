/- Plain facts on the models; no program in sight. -/
import Derived.Test.YthdbndgfjldhpaaM
set_option linter.unusedSimpArgs false
set_option linter.unusedVariables false
namespace Go.Proofs.Ythdbndgfjldhpaa
open Go Go.Proofs Go.Abs
theorem w64 {n : Int} (h1 : -9223372036854775808 ≤ n) (h2 : n ≤ 9223372036854775807) : IntKind.i64.wrap n = n := wrap64_in h1 h2
theorem bl_irrefl : ∀ x : List UInt8, Op.bytesLess x x = false
  | [] => rfl
  | a :: x => by simp [Op.bytesLess, bl_irrefl x]
theorem bl_trans : ∀ {x y z : List UInt8}, Op.bytesLess x y = true → Op.bytesLess y z = true → Op.bytesLess x z = true
  | _, [], _, h1, h2 => by simp [Op.bytesLess] at h1
  | _, _ :: _, [], h1, h2 => by simp [Op.bytesLess] at h2
  | [], _ :: _, _ :: _, h1, h2 => rfl
  | a :: x, b :: y, c :: z, h1, h2 => by
    simp only [Op.bytesLess, Bool.or_eq_true, decide_eq_true_eq, Bool.and_eq_true, beq_iff_eq] at h1 h2 ⊢
    rcases h1 with h1 | ⟨rfl, h1⟩
    · rcases h2 with h2 | ⟨rfl, h2⟩
      · exact .inl (UInt8.lt_trans h1 h2)
      · exact .inl h1
    · rcases h2 with h2 | ⟨rfl, h2⟩
      · exact .inl h2
      · exact .inr ⟨rfl, bl_trans h1 h2⟩
theorem bl_tri : ∀ x y : List UInt8, Op.bytesLess x y = true ∨ x = y ∨ Op.bytesLess y x = true
  | [], [] => .inr (.inl rfl)
  | [], _ :: _ => .inl rfl
  | _ :: _, [] => .inr (.inr rfl)
  | a :: x, b :: y => by
    simp only [Op.bytesLess, Bool.or_eq_true, decide_eq_true_eq, Bool.and_eq_true, beq_iff_eq]
    rcases UInt8.lt_or_lt_of_ne (a := a) (b := b) |> fun h => (Classical.em (a = b)).imp id h with rfl | h | h
    · rcases bl_tri x y with h | rfl | h
      · exact .inl (.inr ⟨rfl, h⟩)
      · exact .inr (.inl rfl)
      · exact .inr (.inr (.inr ⟨rfl, h⟩))
    · exact .inl (.inl h)
    · exact .inr (.inr (.inl h))
theorem sEq_iff {a b : ByteArray} : sEq a b = true ↔ a = b := by
  unfold sEq
  rw [beq_iff_eq, ByteArray.toList_eq, ByteArray.toList_eq]
  obtain ⟨⟨x⟩⟩ := a
  obtain ⟨⟨y⟩⟩ := b
  simp
theorem toList_inj {a b : ByteArray} (h : a.toList = b.toList) : a = b := sEq_iff.1 (by simpa [sEq] using h)
theorem sLt_irrefl (a : ByteArray) : sLt a a = false := bl_irrefl _
theorem sLt_trans {a b c : ByteArray} (h1 : sLt a b = true) (h2 : sLt b c = true) : sLt a c = true := bl_trans h1 h2
theorem sLt_tri (a b : ByteArray) : sLt a b = true ∨ a = b ∨ sLt b a = true := by
  rcases bl_tri a.toList b.toList with h | h | h
  · exact .inl h
  · exact .inr (.inl (toList_inj h))
  · exact .inr (.inr h)
def cmpS (a b : ByteArray) : Int := if sLt a b = true then -1 else if sEq a b = true then 0 else 1
theorem cmp_eq (N : Nat) (a b : ByteArray) : cmp_Compare_string N a b = some (cmpS a b) := by
  have n1 : sEq a a = true := sEq_iff.2 rfl
  have n2 : sEq b b = true := sEq_iff.2 rfl
  simp only [cmp_Compare_string, cmp_isNaN_string, n1, n2, Option.bind_some, cmpS]
  cases sLt a b <;> cases sEq a b <;> rfl
theorem cmpS_zero {a b : ByteArray} : cmpS a b = 0 ↔ a = b := by
  unfold cmpS
  constructor
  · intro h
    split at h
    · omega
    · split at h
      · rename_i e; exact sEq_iff.1 e
      · omega
  · rintro rfl
    simp [sLt_irrefl, sEq_iff.2 rfl]
theorem cmpS_neg {a b : ByteArray} : cmpS a b < 0 ↔ sLt a b = true := by
  unfold cmpS
  split
  · simp [*]
  · split <;> simp [*]
end Go.Proofs.Ythdbndgfjldhpaa

set_option linter.unusedSimpArgs false
set_option linter.unusedVariables false
namespace Go.Proofs.Ythdbndgfjldhpaa
open Go Go.Proofs Go.Abs
structure OkR (r : Reminder) : Prop where
  n1 : 1 ≤ r.Name.size
  n2 : r.Name.size ≤ 32
  d0 : 0 ≤ r.Due
  d1 : r.Due ≤ 1099511627776
  p0 : 1 ≤ r.Period
  p1 : r.Period ≤ 1099511627776
  l0 : 1 ≤ r.Left
  l1 : r.Left ≤ 1099511627776
  fit : (r.Left - 1) * r.Period ≤ 1099511627776 - r.Due
structure VR (t : List Reminder) : Prop where
  len : t.length ≤ 8
  ok : ∀ r ∈ t, OkR r
  so : t.Pairwise fun a b => sLt a.Name b.Name = true
theorem name_of (N : Nat) {s : ByteArray} (h1 : 1 ≤ s.size) (h2 : s.size ≤ 32) : reminders_validName N s = some true := by
  unfold reminders_validName
  rw [if_pos (by omega)]
  have : (s.size : Int) ≤ 32 := by omega
  simp [this]
theorem between_of (N : Nat) {n lo : Int} (h1 : lo ≤ n) (h2 : n ≤ 1099511627776) : reminders_between N n lo = some true := by
  unfold reminders_between
  rw [if_pos h1]
  simp [h2]
theorem fit_iff {l d p : Int} (hd : 0 ≤ d) (hd1 : d ≤ 1099511627776) (hp : 1 ≤ p) : l ≤ Int.tdiv (1099511627776 - d) p ↔ l * p ≤ 1099511627776 - d := by
  rw [Int.tdiv_eq_ediv_of_nonneg (by omega), Int.le_ediv_iff_mul_le (by omega)]
theorem tdiv_bd {d p : Int} (hd : 0 ≤ d) (hd1 : d ≤ 1099511627776) (hp : 1 ≤ p) : 0 ≤ Int.tdiv (1099511627776 - d) p ∧ Int.tdiv (1099511627776 - d) p ≤ 1099511627776 := by
  rw [Int.tdiv_eq_ediv_of_nonneg (by omega)]
  refine ⟨Int.ediv_nonneg (by omega) (by omega), ?_⟩
  have := Int.ediv_le_self p (a := 1099511627776 - d) (by omega)
  omega
theorem vrem (N : Nat) {r : Reminder} (h : OkR r) : reminders_validReminder N r = some true := by
  have a1 := h.d0; have a2 := h.d1; have a3 := h.p0; have a4 := h.p1; have a5 := h.l0; have a6 := h.l1; have a7 := h.fit
  obtain ⟨b1, b2⟩ := tdiv_bd a1 a2 a3
  simp only [reminders_validReminder, name_of N h.n1 h.n2, between_of N a1 a2, between_of N a3 a4, between_of N a5 a6, Option.bind_some, if_true]
  unfold dvx
  rw [if_neg (by omega), w64 (by omega) (by omega), w64 (n := 1099511627776 - r.Due) (by omega) (by omega), w64 (by omega) (by omega)]
  simp [(fit_iff a1 a2 a3).2 a7]
theorem valid_L1 (N : Nat) {t : List Reminder} (h : VR t) : ∀ (xs : List Reminder) (v : Nat), t.drop v = xs → reminders_Valid_L1 N t xs v () = some true
  | [], v, hd => rfl
  | x :: xs, v, hd => by
    have hl := h.len
    have hvl : v < t.length := by
      rcases Nat.lt_or_ge v t.length with h | h
      · exact h
      · rw [List.drop_eq_nil_of_le h] at hd; simp at hd
    rw [List.drop_eq_getElem_cons hvl] at hd
    simp only [List.cons.injEq] at hd
    have hx : t[v]? = some x := by rw [List.getElem?_eq_getElem hvl, hd.1]
    have ih := valid_L1 N h xs (v + 1) hd.2
    rw [reminders_Valid_L1, vrem N (h.ok x (List.mem_of_getElem? hx))]
    simp only [Option.bind_some, if_true]
    by_cases h0 : 0 < v
    · have hp : t[v - 1]? = some t[v - 1] := List.getElem?_eq_getElem (by omega)
      have hlt := List.pairwise_iff_getElem.1 h.so (v - 1) v (by omega) hvl (by omega)
      rw [hd.1] at hlt
      rw [if_pos (by omega), w64 (by omega) (by omega), show ((v : Int) - 1) = ((v - 1 : Nat) : Int) by omega, gx_nat hp]
      simp [hlt, reminders_Valid_J1, ih]
    · rw [if_neg (by omega)]
      simp [reminders_Valid_J1, ih]
theorem valid_of (N : Nat) {t : List Reminder} (h : VR t) : reminders_Valid N t = some true := by
  have hl := h.len
  unfold reminders_Valid
  rw [if_neg (by omega)]
  exact valid_L1 N h t 0 rfl
def ltN (k : ByteArray) (r : Reminder) : Bool := sLt r.Name k
def plc (t : List Reminder) (k : ByteArray) : Nat := (t.takeWhile (ltN k)).length
theorem plc_le (t : List Reminder) (k : ByteArray) : plc t k ≤ t.length := (List.takeWhile_sublist (ltN k)).length_le
theorem plc_lt : ∀ {t : List Reminder} {k : ByteArray}, (t.Pairwise fun a b => sLt a.Name b.Name = true) → ∀ {i : Nat} {r : Reminder}, t[i]? = some r → (sLt r.Name k = true ↔ i < plc t k)
  | [], k, hp, i, r, hr => by simp at hr
  | x :: xs, k, hp, i, r, hr => by
    rw [List.pairwise_cons] at hp
    by_cases h : sLt x.Name k = true
    · have e : plc (x :: xs) k = plc xs k + 1 := by simp [plc, List.takeWhile_cons, ltN, h]
      rw [e]
      cases i with
      | zero => simp only [List.getElem?_cons_zero, Option.some.injEq] at hr; subst hr; simp [h]
      | succ i =>
        rw [List.getElem?_cons_succ] at hr
        rw [plc_lt hp.2 hr]; omega
    · have e : plc (x :: xs) k = 0 := by simp [plc, List.takeWhile_cons, ltN, h]
      rw [e]
      constructor
      · intro hlt
        exfalso
        cases i with
        | zero => simp only [List.getElem?_cons_zero, Option.some.injEq] at hr; subst hr; exact h hlt
        | succ i =>
          rw [List.getElem?_cons_succ] at hr
          exact h (sLt_trans (hp.1 r (List.mem_of_getElem? hr)) hlt)
      · omega
def hasN (t : List Reminder) (k : ByteArray) : Bool := match t[plc t k]? with
  | some s => decide (s.Name = k)
  | none => false
theorem hasN_some {t : List Reminder} {k : ByteArray} (h : hasN t k = true) : ∃ s, t[plc t k]? = some s ∧ s.Name = k := by
  unfold hasN at h
  split at h
  · rename_i s hs; exact ⟨s, hs, by simpa using h⟩
  · cases h
theorem hasN_mem {t : List Reminder} (hp : t.Pairwise fun a b => sLt a.Name b.Name = true) {s : Reminder} (hs : s ∈ t) : t[plc t s.Name]? = some s ∧ hasN t s.Name = true := by
  obtain ⟨i, hi⟩ := List.mem_iff_getElem?.1 hs
  have h1 := plc_lt hp hi (k := s.Name)
  rw [sLt_irrefl] at h1
  have hle : plc t s.Name ≤ i := by
    rcases Nat.lt_or_ge i (plc t s.Name) with h | h
    · exact absurd (h1.2 h) (by simp)
    · exact h
  have hil := (List.getElem?_eq_some_iff.1 hi).1
  have hpl : plc t s.Name < t.length := by omega
  have e : plc t s.Name = i := by
    rcases Nat.lt_or_ge (plc t s.Name) i with h | h
    · exfalso
      have h2 := plc_lt hp (List.getElem?_eq_getElem hpl) (k := s.Name)
      have h3 := List.pairwise_iff_getElem.1 hp _ i hpl hil h
      have h4 : t[i] = s := by rw [List.getElem?_eq_getElem hil] at hi; exact Option.some.inj hi
      rw [h4] at h3
      have := h2.1 h3
      omega
    · omega
  rw [e]
  refine ⟨hi, ?_⟩
  unfold hasN
  rw [e, hi]
  simp
theorem mid_eq {i j : Nat} (h : i + j ≤ 1000000) : IntKind.i64.wrap (shrI .u64 (IntKind.u64.wrap (IntKind.i64.wrap ((i : Int) + (j : Int)))) 1) = (((i + j) / 2 : Nat) : Int) := by
  rw [w64 (n := (i : Int) + (j : Int)) (by omega) (by omega)]
  have e : IntKind.u64.wrap ((i : Int) + (j : Int)) = (i : Int) + (j : Int) := wrap_in ⟨by show (0 : Int) ≤ _; omega, by show _ ≤ (18446744073709551615 : Int); omega⟩
  rw [e]
  have e2 : shrI .u64 ((i : Int) + (j : Int)) 1 = (((i + j) / 2 : Nat) : Int) := by
    show ((i : Int) + (j : Int)).fdiv 2 = _
    rw [Int.fdiv_eq_ediv_of_nonneg _ (by omega)]
    omega
  rw [e2, w64 (by omega) (by omega)]
theorem find_1_eq (N : Nat) (r : Reminder) (k : ByteArray) : reminders_find_1 N r k = some (cmpS r.Name k) := by
  simp only [reminders_find_1, cmp_eq, Option.bind_some]
theorem bs_L1 {t : List Reminder} (ht : t.length ≤ 8) (hp : t.Pairwise fun a b => sLt a.Name b.Name = true) (N : Nat) (k : ByteArray) (kx : Int → Option (Int × Bool)) :
    ∀ (n i j : Nat), j < i + n → i ≤ plc t k → plc t k ≤ j → j ≤ t.length → slices_BinarySearchFunc_string_reminders_find_1_L1 t N k kx n ((i : Int), (j : Int)) = kx ((plc t k : Nat) : Int)
  | 0, i, j, h1, h2, h3, h4 => by omega
  | n + 1, i, j, h1, h2, h3, h4 => by
    rw [slices_BinarySearchFunc_string_reminders_find_1_L1]
    by_cases h : i < j
    · rw [if_pos (by omega), mid_eq (by omega)]
      have hm : (i + j) / 2 < t.length := by omega
      have hx : t[(i + j) / 2]? = some t[(i + j) / 2] := List.getElem?_eq_getElem hm
      have hc := plc_lt hp hx (k := k)
      rw [gx_nat hx, find_1_eq]
      simp only [Option.bind_some, cmpS_neg]
      by_cases hs : sLt t[(i + j) / 2].Name k = true
      · rw [if_pos hs, w64 (by omega) (by omega)]
        have := hc.1 hs
        exact bs_L1 ht hp N k kx n ((i + j) / 2 + 1) j (by omega) (by omega) h3 h4
      · rw [if_neg hs]
        have : ¬ (i + j) / 2 < plc t k := fun q => hs (hc.2 q)
        exact bs_L1 ht hp N k kx n i ((i + j) / 2) (by omega) h2 (by omega) (by omega)
    · rw [if_neg (by omega)]
      have : i = plc t k := by omega
      rw [this]
theorem find_eq (N : Nat) (hN : 9 ≤ N) {t : List Reminder} (h : VR t) (k : ByteArray) : reminders_find N t k = some (((plc t k : Nat) : Int), hasN t k) := by
  have hl := h.len
  have hp := plc_le t k
  have := bs_L1 hl h.so N k (slices_BinarySearchFunc_string_reminders_find_1_J1 t N k) N 0 t.length (by omega) (by omega) hp (by omega)
  simp only [reminders_find, slices_BinarySearchFunc_string_reminders_find_1]
  rw [show ((0 : Int)) = ((0 : Nat) : Int) from rfl, this]
  unfold slices_BinarySearchFunc_string_reminders_find_1_J1 hasN
  cases hq : t[plc t k]? with
  | none =>
    have := List.getElem?_eq_none_iff.1 hq
    rw [if_neg (by omega)]; rfl
  | some s =>
    have := (List.getElem?_eq_some_iff.1 hq).1
    rw [if_pos (by omega), gx_nat hq, find_1_eq]
    simp [cmpS_zero]
end Go.Proofs.Ythdbndgfjldhpaa

set_option linter.unusedSimpArgs false
set_option linter.unusedVariables false
namespace Go.Proofs.Ythdbndgfjldhpaa
open Go Go.Proofs Go.Abs
def insRev : List Reminder → Reminder → List Reminder
  | [], x => [x]
  | a :: r, x => if x.Due < a.Due then a :: insRev r x else x :: a :: r
theorem insRev_len : ∀ (r : List Reminder) (x : Reminder), (insRev r x).length = r.length + 1
  | [], x => rfl
  | a :: r, x => by unfold insRev; split <;> simp [insRev_len r x]
theorem insRev_mem : ∀ {r : List Reminder} {x y : Reminder}, y ∈ insRev r x ↔ y = x ∨ y ∈ r
  | [], x, y => by simp [insRev]
  | a :: r, x, y => by
    unfold insRev
    split
    · simp only [List.mem_cons, insRev_mem]
      constructor
      · rintro (h | h | h) <;> simp [h]
      · rintro (h | h | h) <;> simp [h]
    · simp
def srt : List Reminder → List Reminder → List Reminder
  | ra, [] => ra
  | ra, x :: l => srt (insRev ra x) l
theorem srt_len : ∀ (l ra : List Reminder), (srt ra l).length = ra.length + l.length
  | [], ra => rfl
  | x :: l, ra => by rw [srt, srt_len l, insRev_len, List.length_cons]; omega
theorem srt_mem : ∀ {l ra : List Reminder} {y : Reminder}, y ∈ srt ra l ↔ y ∈ ra ∨ y ∈ l
  | [], ra, y => by simp [srt]
  | x :: l, ra, y => by
    rw [srt, srt_mem, insRev_mem, List.mem_cons]
    constructor
    · rintro ((h | h) | h) <;> simp [h]
    · rintro (h | h | h) <;> simp [h]
theorem cmpI_eq (N : Nat) (a b : Int) : cmp_Compare_int N a b = some (if a < b then -1 else if b < a then 1 else 0) := by
  simp only [cmp_Compare_int, cmp_isNaN_int, Option.bind_some]
  by_cases h1 : a < b
  · simp [h1]
  · by_cases h2 : b < a <;> simp [h1, h2]
theorem due1_eq (N : Nat) (x y : Reminder) : ∃ c, reminders_Due_1 N x y = some c ∧ (c < 0 ↔ x.Due < y.Due) := by
  simp only [reminders_Due_1, cmpI_eq, Option.bind_some]
  refine ⟨_, rfl, ?_⟩
  split
  · simp [*]
  · split <;> simp [*]
theorem getR {A B : List Reminder} {x : Reminder} {n : Nat} (h : A.length = n) : (A ++ x :: B)[n]? = some x := by
  subst h; simp
theorem setR {A B : List Reminder} {x y : Reminder} {n : Nat} (h : A.length = n) : (A ++ x :: B).set n y = A ++ y :: B := by
  subst h; simp
theorem ins_L2 (N : Nat) (rec3 : (List Reminder × Int) → Option (List Reminder)) (v2 : Int) : ∀ (ra : List Reminder) (x : Reminder) (B : List Reminder) (n : Nat), ra.length < n → ra.length + B.length ≤ 1000 →
    slices_insertionSortCmpFunc_Reminder_reminders_Due_1_L2 0 N rec3 v2 n (ra.reverse ++ x :: B, (ra.length : Int)) = rec3 ((insRev ra x).reverse ++ B, IntKind.i64.wrap (v2 + 1))
  | [], x, B, 0, h, _ => by simp at h
  | [], x, B, n + 1, h, _ => by
    rw [slices_insertionSortCmpFunc_Reminder_reminders_Due_1_L2, if_neg (by simp)]
    simp [slices_insertionSortCmpFunc_Reminder_reminders_Due_1_J1, insRev]
  | a :: r, x, B, 0, h, _ => by simp at h
  | a :: r, x, B, n + 1, h, hb => by
    simp only [List.length_cons] at h hb
    have hl : ((a :: r).reverse ++ x :: B) = (r.reverse ++ [a]) ++ x :: B := by simp
    have hl2 : ((a :: r).reverse ++ x :: B) = r.reverse ++ a :: x :: B := by simp
    have g1 : ((a :: r).reverse ++ x :: B)[r.length + 1]? = some x := by rw [hl]; exact getR (by simp)
    have g2 : ((a :: r).reverse ++ x :: B)[r.length]? = some a := by rw [hl2]; exact getR (by simp)
    have ew : IntKind.i64.wrap ((((a :: r).length : Nat) : Int) - 1) = ((r.length : Nat) : Int) := by
      rw [List.length_cons, w64 (by omega) (by omega)]; omega
    rw [slices_insertionSortCmpFunc_Reminder_reminders_Due_1_L2, if_pos (by simp only [List.length_cons]; omega), ew, List.length_cons, gx_nat g1, gx_nat g2]
    obtain ⟨c, hc, hn⟩ := due1_eq N x a
    rw [hc, Option.bind_some]
    by_cases hx : x.Due < a.Due
    · have : c < 0 := hn.2 hx
      have ew' : IntKind.i64.wrap (((r.length + 1 : Nat) : Int) - 1) = ((r.length : Nat) : Int) := by rw [w64 (by omega) (by omega)]; omega
      simp only [this, decide_true, slices_insertionSortCmpFunc_Reminder_reminders_Due_1_J1, if_true, slices_insertionSortCmpFunc_Reminder_reminders_Due_1_J2, ew', gx_nat g2, gx_nat g1, Int.toNat_natCast]
      have s1 : ((a :: r).reverse ++ x :: B).set (r.length + 1) a = r.reverse ++ a :: a :: B := by rw [hl, setR (by simp)]; simp
      have g3 : (r.reverse ++ a :: a :: B)[r.length]? = some a := getR (by simp)
      rw [s1, gx_nat g3, setR (by simp)]
      rw [ins_L2 N rec3 v2 r x (a :: B) n (by omega) (by simp only [List.length_cons]; omega)]
      simp [insRev, hx]
    · have : ¬ c < 0 := fun q => hx (hn.1 q)
      simp only [this, decide_false, slices_insertionSortCmpFunc_Reminder_reminders_Due_1_J1, Bool.false_eq_true, if_false]
      simp [insRev, hx]
theorem ins_L1 (N : Nat) (hN : 1001 ≤ N) (a2 : Int) : ∀ (B ra : List Reminder) (n : Nat), B.length < n → a2 = ((ra.length + B.length : Nat) : Int) → ra.length + B.length ≤ 1000 →
    slices_insertionSortCmpFunc_Reminder_reminders_Due_1_L1 a2 0 N n (ra.reverse ++ B, (ra.length : Int)) = some (srt ra B).reverse
  | _, _, 0, h, _, _ => by omega
  | [], ra, n + 1, h, ha, hb => by
    rw [slices_insertionSortCmpFunc_Reminder_reminders_Due_1_L1, if_neg (by rw [ha]; simp)]
    simp [srt]
  | x :: B, ra, n + 1, h, ha, hb => by
    simp only [List.length_cons] at h ha hb
    rw [slices_insertionSortCmpFunc_Reminder_reminders_Due_1_L1, if_pos (by rw [ha]; omega), ins_L2 N _ _ ra x B N (by omega) (by omega)]
    have e : IntKind.i64.wrap ((ra.length : Int) + 1) = (((insRev ra x).length : Nat) : Int) := by rw [insRev_len, w64 (by omega) (by omega)]; omega
    rw [e, ins_L1 N hN a2 B (insRev ra x) n (by omega) (by rw [insRev_len, ha]; omega) (by rw [insRev_len]; omega), srt]
theorem ins_eq (N : Nat) (hN : 1001 ≤ N) (l : List Reminder) (hl : l.length ≤ 1000) : slices_insertionSortCmpFunc_Reminder_reminders_Due_1 N l 0 (l.length : Int) = some (srt [] l).reverse := by
  have e : slices_insertionSortCmpFunc_Reminder_reminders_Due_1_L1 (l.length : Int) 0 N N (l, IntKind.i64.wrap (0 + 1)) = some (srt [] l).reverse := by
    rw [w64 (by omega) (by omega)]
    cases l with
    | nil =>
      obtain ⟨n, rfl⟩ : ∃ n, N = n + 1 := ⟨N - 1, by omega⟩
      rw [slices_insertionSortCmpFunc_Reminder_reminders_Due_1_L1, if_neg (by simp)]
      simp [srt]
    | cons x B =>
      have := ins_L1 N hN (((x :: B).length : Nat) : Int) B [x] N (by simp only [List.length_cons] at hl; omega) (by simp only [List.length_cons, List.length_nil]; omega) (by simp only [List.length_cons, List.length_nil] at hl ⊢; omega)
      simpa [srt, insRev] using this
  unfold slices_insertionSortCmpFunc_Reminder_reminders_Due_1
  rw [e]
  simp [lenM, srt_len]
theorem sort_eq (N : Nat) (hN : 1001 ≤ N) (l : List Reminder) (hl : l.length ≤ 8) : slices_SortStableFunc_Reminder_reminders_Due_1 N l = some (srt [] l).reverse := by
  have hi := ins_eq N hN l (by omega)
  obtain ⟨n, rfl⟩ : ∃ n, N = n + 1 := ⟨N - 1, by omega⟩
  have e : slices_stableCmpFunc_Reminder_reminders_Due_1 (n + 1) l (l.length : Int) = some (srt [] l).reverse := by
    unfold slices_stableCmpFunc_Reminder_reminders_Due_1
    rw [slices_stableCmpFunc_Reminder_reminders_Due_1_L1, if_neg (by omega), slices_stableCmpFunc_Reminder_reminders_Due_1_J2, hi, Option.bind_some, slices_stableCmpFunc_Reminder_reminders_Due_1_L2, if_neg (by omega)]
    simp [lenM, srt_len]
  unfold slices_SortStableFunc_Reminder_reminders_Due_1
  rw [e]
  simp [lenM, srt_len]
def dueL (t : List Reminder) (now : Int) : List Reminder := (srt [] (t.filter fun r => decide (r.Due ≤ now))).reverse
theorem due_L1 (kx : List Reminder → Option (List Reminder)) (now : Int) : ∀ (xs : List Reminder) (v : Nat) (l : List Reminder), l.length + xs.length ≤ 8 → reminders_Due_L1 kx now xs v l = kx (l ++ xs.filter fun r => decide (r.Due ≤ now))
  | [], v, l, _ => by simp [reminders_Due_L1]
  | x :: xs, v, l, h => by
    simp only [List.length_cons] at h
    rw [reminders_Due_L1]
    by_cases hx : x.Due ≤ now
    · rw [if_pos hx, apx_ok (by simp only [List.length_cons, List.length_nil]; omega), due_L1 kx now xs _ _ (by simp; omega)]
      simp [List.filter_cons, hx]
    · rw [if_neg hx, due_L1 kx now xs _ _ (by omega)]
      simp [List.filter_cons, hx]
theorem due_eq (N : Nat) (hN : 1001 ≤ N) {t : List Reminder} (h : VR t) (now : Int) : reminders_Due N t now = some (dueL t now) := by
  have hl := h.len
  have hf := List.length_filter_le (fun r : Reminder => decide (r.Due ≤ now)) t
  simp only [reminders_Due, valid_of N h, Option.bind_some, if_true]
  rw [due_L1 _ _ _ _ _ (by simpa using hl), List.nil_append, reminders_Due_J1, sort_eq N hN _ (by omega), Option.bind_some]
  rfl
theorem dueL_mem {t : List Reminder} {now : Int} {x : Reminder} : x ∈ dueL t now ↔ x ∈ t ∧ x.Due ≤ now := by
  simp [dueL, srt_mem]
end Go.Proofs.Ythdbndgfjldhpaa

set_option linter.unusedSimpArgs false
set_option linter.unusedVariables false
namespace Go.Proofs.Ythdbndgfjldhpaa
open Go Go.Proofs Go.Abs
theorem clone_eq (N : Nat) {t : List Reminder} (h : t.length ≤ 8) : slices_Clone_Reminder N t = some t := by
  simp only [slices_Clone_Reminder]
  rw [apn_ok (by omega)]
def putR (t : List Reminder) (r : Reminder) : List Reminder := if hasN t r.Name = true then t.set (plc t r.Name) r else t.take (plc t r.Name) ++ [r] ++ t.drop (plc t r.Name)
theorem set_eq (N : Nat) (hN : 9 ≤ N) {t : List Reminder} (h : VR t) {now p n : Int} {nm : ByteArray} (hn0 : 0 ≤ now) (hn1 : now ≤ 1099511627776) (hs1 : 1 ≤ nm.size) (hs2 : nm.size ≤ 32) (hp0 : 1 ≤ p) (hp1 : p ≤ 1099511627776) (hk0 : 1 ≤ n) (hk1 : n ≤ 1099511627776) :
    reminders_Set N t now nm p n = some (if 1099511627776 - now < n * p then ([], 5) else if hasN t nm = false ∧ t.length = 8 then ([], 5) else (putR t ⟨nm, now + p, p, n⟩, 0)) := by
  have hl := h.len
  have hpl := plc_le t nm
  obtain ⟨b1, b2⟩ := tdiv_bd hn0 hn1 hp0
  have hf := fit_iff (l := n) hn0 hn1 hp0
  simp only [reminders_Set, valid_of N h, between_of N hn0 hn1, name_of N hs1 hs2, between_of N hp0 hp1, between_of N hk0 hk1, Option.bind_some, if_true, Bool.not_true, reminders_Set_J1, Bool.false_eq_true, if_false, reminders_Set_J4, find_eq N hN h]
  unfold dvx
  rw [if_neg (by omega), w64 (n := 1099511627776 - now) (by omega) (by omega), w64 (by omega) (by omega)]
  by_cases hc : 1099511627776 - now < n * p
  · have : Int.tdiv (1099511627776 - now) p < n := by
      rcases Int.lt_or_le (Int.tdiv (1099511627776 - now) p) n with q | q
      · exact q
      · have := hf.1 q; omega
    rw [if_pos this, if_pos hc]
  · have : ¬ Int.tdiv (1099511627776 - now) p < n := by
      have := hf.2 (by omega); omega
    rw [if_neg this, if_neg hc]
    have e : Int.tdiv (1099511627776 - now) p ≤ 1099511627776 := b2
    cases hh : hasN t nm
    · by_cases h8 : t.length = 8
      · have h8' : (t.length : Int) = 8 := by omega
        simp [h8, h8', reminders_Set_J2]
      · have h8' : ¬ (t.length : Int) = 8 := by omega
        simp only [Bool.false_eq_true, if_false, h8, h8', and_false, decide_false, reminders_Set_J2, reminders_Set_J3, clone_eq N hl, Option.bind_some, slices_Insert_Reminder, insM]
        rw [if_pos ⟨by omega, by omega, rfl, by omega⟩]
        simp [putR, hh]
        rw [w64 (by omega) (by omega)]
    · obtain ⟨s, hs, _⟩ := hasN_some hh
      simp only [if_true, Bool.true_eq_false, false_and, if_false, reminders_Set_J2, Bool.false_eq_true, reminders_Set_J3, clone_eq N hl, Option.bind_some, gx_nat hs, Int.toNat_natCast]
      simp [putR, hh]
      rw [w64 (by omega) (by omega)]
theorem cutAt {t : List Reminder} {i : Nat} {s : Reminder} (h : t[i]? = some s) : ∃ A B, t = A ++ s :: B ∧ A.length = i ∧ t.take i = A ∧ t.drop (i + 1) = B := by
  have hi := (List.getElem?_eq_some_iff.1 h).1
  have e : t[i] = s := by rw [List.getElem?_eq_getElem hi] at h; exact Option.some.inj h
  refine ⟨t.take i, t.drop (i + 1), ?_, by simp; omega, rfl, rfl⟩
  rw [← e, ← List.drop_eq_getElem_cons hi, List.take_append_drop]
theorem so_mid {A B : List Reminder} {s r : Reminder} (h : (A ++ s :: B).Pairwise fun a b => sLt a.Name b.Name = true) (e : r.Name = s.Name) : (A ++ r :: B).Pairwise fun a b => sLt a.Name b.Name = true := by
  simp only [List.pairwise_append, List.pairwise_cons, List.mem_cons, forall_eq_or_imp] at h ⊢
  refine ⟨h.1, ⟨fun b hb => by rw [e]; exact h.2.1.1 b hb, h.2.1.2⟩, fun a ha => ⟨by rw [e]; exact (h.2.2 a ha).1, (h.2.2 a ha).2⟩⟩
theorem so_ne {A B : List Reminder} {s y : Reminder} (h : (A ++ s :: B).Pairwise fun a b => sLt a.Name b.Name = true) (hy : y ∈ A ∨ y ∈ B) : y.Name ≠ s.Name := by
  simp only [List.pairwise_append, List.pairwise_cons, List.mem_cons, forall_eq_or_imp] at h
  intro e
  rcases hy with hy | hy
  · have := (h.2.2 y hy).1; rw [e, sLt_irrefl] at this; cases this
  · have := h.2.1.1 y hy; rw [e, sLt_irrefl] at this; cases this
theorem mem_mid {A B : List Reminder} {s y : Reminder} (h : (A ++ s :: B).Pairwise fun a b => sLt a.Name b.Name = true) : (y ∈ A ∨ y ∈ B) ↔ (y ∈ A ++ s :: B ∧ y.Name ≠ s.Name) := by
  constructor
  · intro hy
    refine ⟨?_, so_ne h hy⟩
    rcases hy with hy | hy <;> simp [hy]
  · rintro ⟨hy, hn⟩
    simp only [List.mem_append, List.mem_cons] at hy
    rcases hy with hy | rfl | hy
    · exact .inl hy
    · exact absurd rfl hn
    · exact .inr hy
theorem repl {t : List Reminder} (h : VR t) {i : Nat} {s r : Reminder} (hi : t[i]? = some s) (e : r.Name = s.Name) (hr : OkR r) : VR (t.set i r) ∧ ∀ y, y ∈ t.set i r ↔ y = r ∨ (y ∈ t ∧ y.Name ≠ s.Name) := by
  obtain ⟨A, B, rfl, hA, h1, h2⟩ := cutAt hi
  rw [setR hA]
  have hm : ∀ y, y ∈ A ++ r :: B ↔ y = r ∨ (y ∈ A ++ s :: B ∧ y.Name ≠ s.Name) := by
    intro y
    rw [← mem_mid h.so]
    simp only [List.mem_append, List.mem_cons]
    constructor
    · rintro (h | h | h) <;> simp [h]
    · rintro (h | h | h) <;> simp [h]
  refine ⟨⟨by have := h.len; simpa using this, fun y hy => ?_, so_mid h.so e⟩, hm⟩
  rcases (hm y).1 hy with rfl | ⟨hy, _⟩
  · exact hr
  · exact h.ok y hy
theorem delR {t : List Reminder} (h : VR t) {i : Nat} {s : Reminder} (hi : t[i]? = some s) : VR (t.take i ++ t.drop (i + 1)) ∧ ∀ y, y ∈ t.take i ++ t.drop (i + 1) ↔ (y ∈ t ∧ y.Name ≠ s.Name) := by
  obtain ⟨A, B, ht, hA, h1, h2⟩ := cutAt hi
  rw [h1, h2]
  subst ht
  refine ⟨⟨by have := h.len; simp at this ⊢; omega, fun y hy => ?_, ?_⟩, fun y => by rw [← mem_mid h.so, List.mem_append]⟩
  · exact h.ok y (by simp only [List.mem_append, List.mem_cons] at hy ⊢; rcases hy with hy | hy <;> simp [hy])
  · exact h.so.sublist (by simp)
theorem putR_ok {t : List Reminder} (h : VR t) {r : Reminder} (hr : OkR r) (h8 : ¬ (hasN t r.Name = false ∧ t.length = 8)) : VR (putR t r) ∧ (∀ y, y ∈ putR t r ↔ y = r ∨ (y ∈ t ∧ y.Name ≠ r.Name)) ∧ (putR t r).length ≤ t.length + 1 := by
  unfold putR
  cases hh : hasN t r.Name
  · simp only [Bool.false_eq_true, if_false]
    rw [hh] at h8
    have hl := h.len
    have h8' : ¬ t.length = 8 := fun e => h8 ⟨rfl, e⟩
    have hlt : ∀ a ∈ t.take (plc t r.Name), sLt a.Name r.Name = true := by
      intro a ha
      obtain ⟨i, hi⟩ := List.mem_iff_getElem?.1 ha
      have hi1 := (List.getElem?_eq_some_iff.1 hi).1
      simp only [List.length_take] at hi1
      rw [List.getElem?_take_of_lt (by omega)] at hi
      exact (plc_lt h.so hi).2 (by omega)
    have hgt : ∀ a ∈ t.drop (plc t r.Name), sLt r.Name a.Name = true := by
      intro a ha
      obtain ⟨i, hi⟩ := List.mem_iff_getElem?.1 ha
      rw [List.getElem?_drop] at hi
      have h1 := plc_lt h.so hi (k := r.Name)
      have h2 : ¬ sLt a.Name r.Name = true := fun q => by have := h1.1 q; omega
      rcases sLt_tri a.Name r.Name with q | q | q
      · exact absurd q h2
      · exfalso
        have := (hasN_mem h.so (List.mem_of_getElem? hi)).2
        rw [q, hh] at this; cases this
      · exact q
    have hne : ∀ y ∈ t, y.Name ≠ r.Name := by
      intro y hy e
      have := (hasN_mem h.so hy).2
      rw [e, hh] at this; cases this
    have hm : ∀ y, y ∈ t.take (plc t r.Name) ++ [r] ++ t.drop (plc t r.Name) ↔ y = r ∨ (y ∈ t ∧ y.Name ≠ r.Name) := by
      intro y
      have : y ∈ t ↔ y ∈ t.take (plc t r.Name) ∨ y ∈ t.drop (plc t r.Name) := by rw [← List.mem_append, List.take_append_drop]
      simp only [List.mem_append, List.mem_singleton]
      constructor
      · rintro ((q | q) | q)
        · have hy := this.2 (.inl q); exact .inr ⟨hy, hne y hy⟩
        · exact .inl q
        · have hy := this.2 (.inr q); exact .inr ⟨hy, hne y hy⟩
      · rintro (q | ⟨q, _⟩)
        · exact .inl (.inr q)
        · rcases this.1 q with q | q
          · exact .inl (.inl q)
          · exact .inr q
    have hp' := h.so
    rw [← List.take_append_drop (plc t r.Name) t, List.pairwise_append] at hp'
    have hpl := plc_le t r.Name
    refine ⟨⟨by simp; omega, fun y hy => ?_, ?_⟩, hm, by simp; omega⟩
    · rcases (hm y).1 hy with rfl | ⟨hy, _⟩
      · exact hr
      · exact h.ok y hy
    · rw [List.append_assoc, List.pairwise_append]
      refine ⟨hp'.1, ?_, fun a ha b hb => ?_⟩
      · rw [List.singleton_append, List.pairwise_cons]; exact ⟨hgt, hp'.2.1⟩
      · rw [List.singleton_append, List.mem_cons] at hb
        rcases hb with rfl | hb
        · exact hlt a ha
        · exact hp'.2.2 a ha b hb
  · obtain ⟨s, hs, he⟩ := hasN_some hh
    simp only [if_true]
    obtain ⟨a, b⟩ := repl h hs he.symm hr
    rw [he] at b
    exact ⟨a, b, by simp⟩
def nxt (x : Reminder) : Reminder := ⟨x.Name, x.Due + x.Period, x.Period, x.Left - 1⟩
theorem nxt_ok {x : Reminder} (h : OkR x) (h1 : x.Left ≠ 1) : OkR (nxt x) := by
  have a1 := h.d0; have a2 := h.d1; have a3 := h.p0; have a4 := h.p1; have a5 := h.l0; have a6 := h.l1; have a7 := h.fit
  have e : (x.Left - 1 - 1) * x.Period = (x.Left - 1) * x.Period - x.Period := by rw [Int.sub_mul (x.Left - 1) 1, Int.one_mul]
  have e2 : x.Period ≤ (x.Left - 1) * x.Period := by
    have := Int.mul_le_mul_of_nonneg_right (show (1 : Int) ≤ x.Left - 1 by omega) (show 0 ≤ x.Period by omega)
    rwa [Int.one_mul] at this
  refine ⟨h.n1, h.n2, ?_, ?_, a3, a4, ?_, ?_, ?_⟩ <;> simp only [nxt] <;> omega
def fireT (t : List Reminder) (x : Reminder) : List Reminder := if x.Left = 1 then t.take (plc t x.Name) ++ t.drop (plc t x.Name + 1) else t.set (plc t x.Name) (nxt x)
theorem fire_hit (N : Nat) (hN : 9 ≤ N) {t : List Reminder} (h : VR t) {x : Reminder} (hx : x ∈ t) : reminders_Fire N t x.Name x.Due = some (fireT t x, 0) := by
  have hl := h.len
  obtain ⟨h1, h2⟩ := hasN_mem h.so hx
  have ho := h.ok x hx
  have a1 := ho.d0; have a2 := ho.d1; have a3 := ho.p0; have a4 := ho.p1; have a5 := ho.l0; have a6 := ho.l1
  have hpl := (List.getElem?_eq_some_iff.1 h1).1
  simp only [reminders_Fire, valid_of N h, find_eq N hN h, Option.bind_some, if_true, h2, gx_nat h1, clone_eq N hl, Int.toNat_natCast]
  rw [w64 (n := ((plc t x.Name : Nat) : Int) + 1) (by omega) (by omega)]
  by_cases hL : x.Left = 1
  · rw [if_pos hL, slices_Delete_Reminder, delM, if_pos ⟨by omega, by omega, by omega⟩]
    simp only [Option.bind_some, fireT, hL, if_true, Int.toNat_natCast]
    rfl
  · rw [if_neg hL, w64 (by omega) (by omega), w64 (by omega) (by omega)]
    simp only [fireT, hL, if_false]
    rfl
theorem fireT_ok {t : List Reminder} (h : VR t) {x : Reminder} (hx : x ∈ t) : VR (fireT t x) ∧ ∀ y, y ∈ fireT t x ↔ (x.Left ≠ 1 ∧ y = nxt x) ∨ (y ∈ t ∧ y.Name ≠ x.Name) := by
  obtain ⟨h1, h2⟩ := hasN_mem h.so hx
  unfold fireT
  by_cases hL : x.Left = 1
  · rw [if_pos hL]
    obtain ⟨a, b⟩ := delR h h1
    exact ⟨a, fun y => by rw [b y]; simp [hL]⟩
  · rw [if_neg hL]
    obtain ⟨a, b⟩ := repl h h1 (r := nxt x) rfl (nxt_ok (h.ok x hx) hL)
    exact ⟨a, fun y => by rw [b y]; simp [hL]⟩
end Go.Proofs.Ythdbndgfjldhpaa

set_option linter.unusedSimpArgs false
set_option linter.unusedVariables false
namespace Go.Proofs.Ythdbndgfjldhpaa
open Go Go.Proofs Go.Abs
abbrev Act29 := actorgridlaw29_Act
def U8A (x : Act29) : Prop := (0 ≤ x.Kind ∧ x.Kind ≤ 255) ∧ (0 ≤ x.Name ∧ x.Name ≤ 255) ∧ (0 ≤ x.Period ∧ x.Period ≤ 255) ∧ (0 ≤ x.N ∧ x.N ≤ 255) ∧ (0 ≤ x.After ∧ x.After ≤ 255)
def nmK (k : Nat) : ByteArray := (ByteArray.mk #[97, 98, 99, 100, 101, 102, 103, 104, 105, 106]).extract k (k + 1)
def nm (w : Int) : ByteArray := nmK (w % 10).toNat
theorem nmK_ok : ∀ k, k < 10 → (nmK k).size = 1 ∧ nmK k ≠ ⟨#[122]⟩ := by decide
theorem nm_size (w : Int) : (nm w).size = 1 := (nmK_ok _ (by omega)).1
theorem nm_ne (w : Int) : nm w ≠ ⟨#[122]⟩ := (nmK_ok _ (by omega)).2
theorem name_eq (N : Nat) {w : Int} (h0 : 0 ≤ w) (h1 : w ≤ 255) : law29_name N w = some (nm w) := by
  have e1 : Int.tmod w 10 = w % 10 := Int.tmod_eq_emod_of_nonneg h0
  have z : (ByteArray.mk #[97, 98, 99, 100, 101, 102, 103, 104, 105, 106]).size = 10 := rfl
  unfold law29_name
  rw [e1, w64 (n := w % 10) (by omega) (by omega), w64 (by omega) (by omega)]
  unfold sls
  rw [if_pos ⟨by omega, by omega, by omega, by rw [z]; omega⟩]
  have : (w % 10 + 1).toNat = (w % 10).toNat + 1 := by omega
  rw [this]
  rfl
theorem gx_in {α β : Type} {l : List α} {i : Int} {k : α → Option β} (h0 : 0 ≤ i) (h1 : i < l.length) : ∃ x, x ∈ l ∧ gx l i k = k x := by
  have hlt : i.toNat < l.length := by omega
  refine ⟨l[i.toNat], List.getElem_mem hlt, ?_⟩
  rw [gx_at ⟨h0, h1⟩, List.getElem?_eq_getElem hlt]; rfl
theorem small_eq {a m : Int} (h0 : 0 ≤ a) (h1 : a ≤ 255) (hm : 0 < m) (hm2 : m ≤ 255) : IntKind.i64.wrap (IntKind.i64.wrap (Int.tmod a m) + 1) = a % m + 1 ∧ 0 ≤ a % m ∧ a % m < m := by
  have e1 : Int.tmod a m = a % m := Int.tmod_eq_emod_of_nonneg h0
  have := Int.emod_nonneg a (show m ≠ 0 by omega)
  have := Int.emod_lt_of_pos a hm
  rw [e1, w64 (n := a % m) (by omega) (by omega), w64 (by omega) (by omega)]
  exact ⟨rfl, by omega, by omega⟩
theorem mul_bd {a b A B : Int} (ha : 0 ≤ a) (hA : a ≤ A) (hb : 0 ≤ b) (hB : b ≤ B) : 0 ≤ a * b ∧ a * b ≤ A * B := ⟨Int.mul_nonneg ha hb, Int.mul_le_mul hA hB hb (by omega)⟩
theorem newOk {k : ByteArray} {now p n : Int} (hs1 : 1 ≤ k.size) (hs2 : k.size ≤ 32) (h0 : 0 ≤ now) (h1 : now ≤ 20000) (p0 : 1 ≤ p) (p1 : p ≤ 256) (n0 : 1 ≤ n) (n1 : n ≤ 256) : OkR ⟨k, now + p, p, n⟩ ∧ ¬ 1099511627776 - now < n * p := by
  obtain ⟨a1, a2⟩ := mul_bd (a := n) (b := p) (by omega) n1 (by omega) p1
  obtain ⟨b1, b2⟩ := mul_bd (a := n - 1) (b := p) (A := 256) (by omega) (by omega) (by omega) p1
  exact ⟨⟨hs1, hs2, by simp only; omega, by simp only; omega, p0, by simp only; omega, n0, by simp only; omega, by simp only; omega⟩, by omega⟩
theorem set_step (N : Nat) (hN : 9 ≤ N) {t : List Reminder} (h : VR t) {k : ByteArray} {now p n : Int} (hs1 : 1 ≤ k.size) (hs2 : k.size ≤ 32) (h0 : 0 ≤ now) (h1 : now ≤ 20000) (p0 : 1 ≤ p) (p1 : p ≤ 256) (n0 : 1 ≤ n) (n1 : n ≤ 256) :
    (reminders_Set N t now k p n = some ([], 5) ∧ hasN t k = false ∧ t.length = 8) ∨ (∃ u, reminders_Set N t now k p n = some (u, 0) ∧ VR u ∧ (∀ y, y ∈ u ↔ y = ⟨k, now + p, p, n⟩ ∨ (y ∈ t ∧ y.Name ≠ k)) ∧ u.length ≤ t.length + 1) := by
  obtain ⟨a, b⟩ := newOk hs1 hs2 h0 h1 p0 p1 n0 n1
  rw [set_eq N hN h h0 (by omega) hs1 hs2 p0 (by omega) n0 (by omega), if_neg b]
  by_cases hc : hasN t k = false ∧ t.length = 8
  · rw [if_pos hc]; exact .inl ⟨rfl, hc⟩
  · rw [if_neg hc]
    obtain ⟨c, d, e⟩ := putR_ok h a hc
    exact .inr ⟨_, rfl, c, d, e⟩
theorem awake29 : law29_awake 4000 = some true := by decide +kernel
theorem vr_nil : VR [] := ⟨by simp, by simp, List.Pairwise.nil⟩
end Go.Proofs.Ythdbndgfjldhpaa

set_option linter.unusedSimpArgs false
set_option linter.unusedVariables false
namespace Go.Proofs.Ythdbndgfjldhpaa
open Go Go.Proofs Go.Abs
end Go.Proofs.Ythdbndgfjldhpaa

set_option linter.unusedSimpArgs false
set_option linter.unusedVariables false
namespace Go.Proofs.Ythdbndgfjldhpaa
open Go Go.Proofs Go.Abs
end Go.Proofs.Ythdbndgfjldhpaa

set_option linter.unusedSimpArgs false
set_option linter.unusedVariables false
namespace Go.Proofs.Ythdbndgfjldhpaa
open Go Go.Proofs Go.Abs
def sumL : List Reminder → Int
  | [] => 0
  | x :: xs => x.Left + sumL xs
theorem sumL_app : ∀ (a b : List Reminder), sumL (a ++ b) = sumL a + sumL b
  | [], b => by simp [sumL]
  | x :: a, b => by rw [List.cons_append, sumL, sumL, sumL_app a b]; omega
theorem sumL_bd : ∀ (l : List Reminder), (∀ x ∈ l, 1 ≤ x.Left ∧ x.Left ≤ 20) → (l.length : Int) ≤ sumL l ∧ sumL l ≤ 20 * l.length
  | [], _ => by simp [sumL]
  | x :: xs, h => by
    obtain ⟨a, b⟩ := sumL_bd xs (fun y hy => h y (by simp [hy]))
    have := h x (by simp)
    rw [sumL, List.length_cons]
    omega
theorem sumL_fire {t : List Reminder} (h : VR t) {x : Reminder} (hx : x ∈ t) : sumL (fireT t x) = sumL t - 1 := by
  obtain ⟨A, B, ht, hA, h1, h2⟩ := cutAt (hasN_mem h.so hx).1
  unfold fireT
  by_cases hL : x.Left = 1
  · rw [if_pos hL, h1, h2, ht, sumL_app, sumL_app, sumL]; omega
  · rw [if_neg hL]
    have : t.set (plc t x.Name) (nxt x) = A ++ nxt x :: B := by
      generalize plc t x.Name = i at hA h1 h2
      rw [ht]; exact setR hA
    rw [this, ht, sumL_app, sumL_app, sumL, sumL]
    simp only [nxt]; omega
abbrev zN : ByteArray := ⟨#[122]⟩
structure InvZ (s p n e : Int) (t : List Reminder) (c : Int) : Prop where
  vr : VR t
  lf : ∀ x ∈ t, 1 ≤ x.Left ∧ x.Left ≤ 20
  c0 : 0 ≤ c
  cn : c ≤ n
  z : (c < n ∧ Reminder.mk zN (s + (c + 1) * p) p (n - c) ∈ t) ∨ (c = n ∧ ∀ y ∈ t, y.Name ≠ zN)
  pst : 0 < c → s + c * p ≤ e
theorem same_name {t : List Reminder} (h : VR t) {x y : Reminder} (hx : x ∈ t) (hy : y ∈ t) (e : x.Name = y.Name) : x = y := by
  have h1 := (hasN_mem h.so hx).1
  have h2 := (hasN_mem h.so hy).1
  rw [e, h2] at h1
  exact (Option.some.inj h1).symm
theorem fireT_left {t : List Reminder} (h : VR t) (lf : ∀ x ∈ t, 1 ≤ x.Left ∧ x.Left ≤ 20) {x : Reminder} (hx : x ∈ t) : ∀ y ∈ fireT t x, 1 ≤ y.Left ∧ y.Left ≤ 20 := by
  intro y hy
  rcases ((fireT_ok h hx).2 y).1 hy with ⟨h1, rfl⟩ | ⟨h1, _⟩
  · have := lf x hx; simp only [nxt]; omega
  · exact lf y h1
theorem fire_z {s p n e c : Int} {t : List Reminder} (h : InvZ s p n e t c) {x : Reminder} (hx : x ∈ t) (hz : x.Name = zN) (hd : x.Due ≤ e) : x.Due = s + (c + 1) * p ∧ InvZ s p n e (fireT t x) (c + 1) := by
  rcases h.z with ⟨h1, h2⟩ | ⟨_, h2⟩
  · obtain rfl := same_name h.vr hx h2 hz
    refine ⟨rfl, ?_⟩
    obtain ⟨hv, hm⟩ := fireT_ok h.vr hx
    have hc0 := h.c0
    refine ⟨hv, fireT_left h.vr h.lf hx, by omega, by omega, ?_, fun _ => hd⟩
    by_cases hl : n - c = 1
    · refine .inr ⟨by omega, fun y hy => ?_⟩
      rcases (hm y).1 hy with ⟨q, _⟩ | ⟨_, q⟩
      · exact absurd hl q
      · exact q
    · refine .inl ⟨by omega, (hm _).2 (.inl ⟨hl, ?_⟩)⟩
      simp only [nxt, Reminder.mk.injEq, true_and]
      refine ⟨?_, by omega⟩
      rw [Int.add_mul (c + 1) 1, Int.one_mul]; omega
  · exact absurd hz (h2 x hx)
theorem fire_o {s p n e c : Int} {t : List Reminder} (h : InvZ s p n e t c) {x : Reminder} (hx : x ∈ t) (hz : x.Name ≠ zN) : InvZ s p n e (fireT t x) c := by
  obtain ⟨hv, hm⟩ := fireT_ok h.vr hx
  refine ⟨hv, fireT_left h.vr h.lf hx, h.c0, h.cn, ?_, h.pst⟩
  rcases h.z with ⟨h1, h2⟩ | ⟨h1, h2⟩
  · exact .inl ⟨h1, (hm _).2 (.inr ⟨h2, fun q => hz q.symm⟩)⟩
  · refine .inr ⟨h1, fun y hy => ?_⟩
    rcases (hm y).1 hy with ⟨_, rfl⟩ | ⟨q, _⟩
    · exact hz
    · exact h2 y q
structure In (a0 a1 a2 a3 : Int) (s p n e : Int) : Prop where
  es : s = a0
  ep : p = a1 % 30 + 1
  en : n = a2 % 20 + 1
  ee : e = a3 % 1000
  b0 : 0 ≤ a0 ∧ a0 ≤ 255
  b1 : 0 ≤ a1 ∧ a1 ≤ 255
  b2 : 0 ≤ a2 ∧ a2 ≤ 255
  b3 : 0 ≤ a3 ∧ a3 ≤ 65535
theorem In.bd {a0 a1 a2 a3 s p n e : Int} (h : In a0 a1 a2 a3 s p n e) : 0 ≤ s ∧ s ≤ 255 ∧ 1 ≤ p ∧ p ≤ 30 ∧ 1 ≤ n ∧ n ≤ 20 ∧ 0 ≤ e ∧ e ≤ 999 := by
  obtain ⟨h1, h2, h3, h4, h5, h6, h7, h8⟩ := h
  omega
theorem In.w {a0 a1 a2 a3 s p n e : Int} (h : In a0 a1 a2 a3 s p n e) : IntKind.i64.wrap a0 = s ∧ IntKind.i64.wrap (IntKind.i64.wrap (Int.tmod a1 30) + 1) = p ∧ IntKind.i64.wrap (IntKind.i64.wrap (Int.tmod a2 20) + 1) = n ∧ IntKind.i64.wrap (Int.tmod a3 1000) = e := by
  have h0 := h.b0; have h1 := h.b1; have h2 := h.b2; have h3 := h.b3
  refine ⟨by rw [h.es]; exact w64 (by omega) (by omega), by rw [h.ep]; exact (small_eq h1.1 h1.2 (by omega) (by omega)).1, by rw [h.en]; exact (small_eq h2.1 h2.2 (by omega) (by omega)).1, ?_⟩
  have e1 : Int.tmod a3 1000 = a3 % 1000 := Int.tmod_eq_emod_of_nonneg h3.1
  rw [e1, h.ee]; exact w64 (by omega) (by omega)
section
variable {a0 a1 a2 a3 s p n e : Int}
theorem all_J3 (N : Nat) (hN : 1001 ≤ N) (hi : In a0 a1 a2 a3 s p n e) {t : List Reminder} {c : Int} (h : InvZ s p n e t c) (rec : List Reminder × Int × Int → Option Bool) {i k : Int} (i0 : 0 ≤ i) (i1 : i ≤ 4000) (k0 : 0 ≤ k) (k1 : k < (dueL t e).length)
    (hrec : ∀ u c', InvZ s p n e u c' → sumL u = sumL t - 1 → rec (u, c', i + 1) = some true) :
    law29_RemindersAll_J3 (dueL t e) a0 c a1 N t rec i k = some true := by
  obtain ⟨w1, w2, w3, w4⟩ := hi.w
  obtain ⟨b1, b2, b3, b4, b5, b6, b7, b8⟩ := hi.bd
  have c0 := h.c0; have cn := h.cn
  have hlt : k.toNat < (dueL t e).length := by omega
  have hg : (dueL t e)[k.toNat]? = some (dueL t e)[k.toNat] := List.getElem?_eq_getElem hlt
  have ek : k = ((k.toNat : Nat) : Int) := by omega
  have hmem := dueL_mem.1 (List.getElem_mem hlt)
  generalize (dueL t e)[k.toNat] = x at hg hmem
  obtain ⟨hxt, hxd⟩ := hmem
  have wi : IntKind.i64.wrap (i + 1) = i + 1 := w64 (by omega) (by omega)
  have wc : IntKind.i64.wrap (c + 1) = c + 1 := w64 (by omega) (by omega)
  have J2 : ∀ c', InvZ s p n e (fireT t x) c' → law29_RemindersAll_J2 (dueL t e) k N t rec i c' = some true := by
    intro c' hc'
    rw [law29_RemindersAll_J2, ek, gx_nat hg, fire_hit N (by omega) h.vr hxt, Option.bind_some, if_pos rfl, wi]
    exact hrec _ _ hc' (sumL_fire h.vr hxt)
  rw [law29_RemindersAll_J3]
  conv => lhs; arg 2; rw [ek]
  rw [gx_nat hg]
  by_cases hz : x.Name = zN
  · obtain ⟨q1, q2⟩ := fire_z h hxt hz hxd
    obtain ⟨m1, m2⟩ := mul_bd (a := c + 1) (b := p) (A := 21) (by omega) (by omega) (by omega) b4
    rw [if_pos (sEq_iff.2 hz), wc, w1, w2, w64 (n := (c + 1) * p) (by omega) (by omega), w64 (n := s + (c + 1) * p) (by omega) (by omega), if_pos q1]
    exact J2 _ q2
  · rw [if_neg (fun q => hz (sEq_iff.1 q))]
    exact J2 _ (fire_o h hxt hz)
theorem all_L2 (N : Nat) (hN : 1001 ≤ N) (hi : In a0 a1 a2 a3 s p n e) (a4 : List Int) (ha4 : ∀ x ∈ a4, 0 ≤ x ∧ x ≤ 255) (kx : List Reminder → Int → Option Bool) (hk : ∀ t c, InvZ s p n e t c → (dueL t e).length = 0 → kx t c = some true) :
    ∀ (m : Nat) (t : List Reminder) (c i : Int), sumL t < m → 0 ≤ i → i + sumL t ≤ 2000 → InvZ s p n e t c → law29_RemindersAll_L2 N a3 kx a4 a0 a1 m (t, c, i) = some true
  | 0, t, c, i, h1, _, _, h => by have := (sumL_bd t h.lf).1; omega
  | m + 1, t, c, i, h1, i0, h2, h => by
    obtain ⟨w1, w2, w3, w4⟩ := hi.w
    have hs := (sumL_bd t h.lf).1
    rw [law29_RemindersAll_L2, if_pos (by omega), w4, due_eq N hN h.vr, Option.bind_some]
    by_cases hl : (dueL t e).length = 0
    · rw [if_pos (by omega)]; exact hk t c h hl
    rw [if_neg (by omega)]
    have hJ : ∀ k : Int, 0 ≤ k → k < (dueL t e).length → law29_RemindersAll_J3 (dueL t e) a0 c a1 N t (law29_RemindersAll_L2 N a3 kx a4 a0 a1 m) i k = some true := fun k k0 k1 =>
      all_J3 N hN hi h _ i0 (by omega) k0 k1 (fun u c' hu hsu => all_L2 N hN hi a4 ha4 kx hk m u c' (i + 1) (by omega) (by omega) (by omega) hu)
    by_cases ho : i < (a4.length : Int)
    · rw [if_pos ho]
      obtain ⟨x, hx, hg⟩ := gx_in (l := a4) (k := fun x29 => dvx (((dueL t e).length : Nat) : Int) (law29_RemindersAll_J3 (dueL t e) a0 c a1 N t (law29_RemindersAll_L2 N a3 kx a4 a0 a1 m) i (Int.tmod (IntKind.i64.wrap x29) (((dueL t e).length : Nat) : Int)))) i0 ho
      rw [hg]
      obtain ⟨x0, x1⟩ := ha4 x hx
      have ew : IntKind.i64.wrap x = x := w64 (by omega) (by omega)
      have em : Int.tmod x (((dueL t e).length : Nat) : Int) = x % (((dueL t e).length : Nat) : Int) := Int.tmod_eq_emod_of_nonneg x0
      have m1 := Int.emod_nonneg x (show (((dueL t e).length : Nat) : Int) ≠ 0 by omega)
      have m2 := Int.emod_lt_of_pos x (show (0 : Int) < (((dueL t e).length : Nat) : Int) by omega)
      unfold dvx
      rw [if_neg (by omega), ew, em]
      exact hJ _ m1 m2
    · rw [if_neg ho]; exact hJ 0 (by omega) (by omega)
theorem all_L3 (hi : In a0 a1 a2 a3 s p n e) (kx : Int → Option Bool) {c : Int} (c0 : 0 ≤ c) (cn : c ≤ n) (hc : ∀ k, 1 ≤ k → k ≤ n → (s + k * p ≤ e ↔ k ≤ c)) :
    ∀ (m : Nat) (w k : Int), n + 1 - k < m → 1 ≤ k → k ≤ n + 1 → w = min (k - 1) c → law29_RemindersAll_L3 a2 a0 a1 a3 kx m (w, k) = kx c
  | 0, w, k, h, _, _, _ => by omega
  | m + 1, w, k, h, h1, h2, hw => by
    obtain ⟨w1, w2, w3, w4⟩ := hi.w
    obtain ⟨b1, b2, b3, b4, b5, b6, b7, b8⟩ := hi.bd
    obtain ⟨m1, m2⟩ := mul_bd (a := k) (b := p) (A := 21) (by omega) (by omega) (by omega) b4
    rw [law29_RemindersAll_L3, w1, w2, w3, w4]
    by_cases hk : k ≤ n
    · rw [if_pos hk, w64 (n := k * p) (by omega) (by omega), w64 (n := s + k * p) (by omega) (by omega), w64 (n := k + 1) (by omega) (by omega), w64 (n := w + 1) (by omega) (by omega)]
      have q := hc k h1 hk
      by_cases hq : s + k * p ≤ e
      · rw [if_pos hq]
        have := q.1 hq
        exact all_L3 hi kx c0 cn hc m (w + 1) (k + 1) (by omega) (by omega) (by omega) (by omega)
      · rw [if_neg hq]
        have : ¬ k ≤ c := fun z => hq (q.2 z)
        exact all_L3 hi kx c0 cn hc m w (k + 1) (by omega) (by omega) (by omega) (by omega)
    · rw [if_neg hk]
      congr 1; omega
theorem all_J5 (N : Nat) (hN : 1001 ≤ N) (hi : In a0 a1 a2 a3 s p n e) {t : List Reminder} {c : Int} (h : InvZ s p n e t c) (hl : (dueL t e).length = 0) : law29_RemindersAll_J5 a2 a0 a1 a3 N t c = some true := by
  obtain ⟨w1, w2, w3, w4⟩ := hi.w
  obtain ⟨b1, b2, b3, b4, b5, b6, b7, b8⟩ := hi.bd
  have c0 := h.c0; have cn := h.cn
  have hmono : ∀ {x y : Int}, x ≤ y → x * p ≤ y * p := fun hxy => Int.mul_le_mul_of_nonneg_right hxy (by omega)
  have hc : ∀ k, 1 ≤ k → k ≤ n → (s + k * p ≤ e ↔ k ≤ c) := by
    intro k k1 k2
    constructor
    · intro hk
      rcases h.z with ⟨q1, q2⟩ | ⟨q1, q2⟩
      · rcases Int.lt_or_le c k with z | z
        · exfalso
          have := hmono (show c + 1 ≤ k by omega)
          have hd : Reminder.mk zN (s + (c + 1) * p) p (n - c) ∈ dueL t e := dueL_mem.2 ⟨q2, by simp only; omega⟩
          have := List.length_pos_of_mem hd
          omega
        · exact z
      · omega
    · intro hk
      have := hmono hk
      have := h.pst (by omega)
      omega
  rw [law29_RemindersAll_J5, all_L3 hi _ c0 cn hc N 0 1 (by omega) (by omega) (by omega) (by omega), law29_RemindersAll_J4, if_pos rfl, w4, due_eq N hN h.vr, Option.bind_some, hl]
  rfl
structure InvA (s p n : Int) (t : List Reminder) : Prop where
  vr : VR t
  lf : ∀ x ∈ t, 1 ≤ x.Left ∧ x.Left ≤ 20
  z : Reminder.mk zN (s + p) p n ∈ t
theorem all_L1 (N : Nat) (hN : 9 ≤ N) (hi : In a0 a1 a2 a3 s p n e) (kx : List Reminder → Option Bool) (hk : ∀ t, InvA s p n t → kx t = some true) : ∀ (xs : List Act29) (v : Nat) (t : List Reminder), (∀ x ∈ xs, U8A x) → InvA s p n t → t.length + xs.length ≤ 8 →
    law29_RemindersAll_L1 kx N a0 xs v t = some true
  | [], v, t, _, h, _ => by rw [law29_RemindersAll_L1]; exact hk t h
  | x :: xs, v, t, hw, h, hl => by
    simp only [List.length_cons] at hl
    obtain ⟨w1, w2, w3, w4⟩ := hi.w
    obtain ⟨g1, g2, g3, g4, g5, g6, g7, g8⟩ := hi.bd
    obtain ⟨_, ⟨b1, b2⟩, ⟨c1, c2⟩, ⟨d1, d2⟩, _⟩ := hw x (by simp)
    have hw' : ∀ y ∈ xs, U8A y := fun y hy => hw y (by simp [hy])
    have hsz := nm_size x.Name
    obtain ⟨p1, p2, p3⟩ := small_eq c1 c2 (m := 30) (by omega) (by omega)
    obtain ⟨n1, n2, n3⟩ := small_eq d1 d2 (m := 20) (by omega) (by omega)
    rw [law29_RemindersAll_L1, name_eq N b1 b2, Option.bind_some, w1, p1, n1]
    rcases set_step N hN h.vr (k := nm x.Name) (now := s) (p := x.Period % 30 + 1) (n := x.N % 20 + 1) (by omega) (by omega) (by omega) (by omega) (by omega) (by omega) (by omega) (by omega) with ⟨q1, q2, q3⟩ | ⟨u, q1, q2, q3, q4⟩
    · omega
    · rw [q1, Option.bind_some, if_pos rfl]
      refine all_L1 N hN hi kx hk xs (v + 1) u hw' ⟨q2, fun y hy => ?_, ?_⟩ (by omega)
      · rcases (q3 y).1 hy with rfl | ⟨hy, _⟩
        · simp only; omega
        · exact h.lf y hy
      · exact (q3 _).2 (.inr ⟨h.z, fun q => nm_ne x.Name q.symm⟩)
end
theorem plain_RemindersAll (a0 a1 a2 a3 : Int) (a4 : List Int) (ls : List Act29) (h0 : 0 ≤ a0 ∧ a0 ≤ 255) (h1 : 0 ≤ a1 ∧ a1 ≤ 255) (h2 : 0 ≤ a2 ∧ a2 ≤ 255) (h3 : 0 ≤ a3 ∧ a3 ≤ 65535) (h4 : ∀ x ∈ a4, 0 ≤ x ∧ x ≤ 255) (hw : ∀ x ∈ ls, U8A x) :
    law29_RemindersAll 4000 a0 a1 a2 a3 a4 ls = some true := by
  have hi : In a0 a1 a2 a3 a0 (a1 % 30 + 1) (a2 % 20 + 1) (a3 % 1000) := ⟨rfl, rfl, rfl, rfl, h0, h1, h2, h3⟩
  obtain ⟨w1, w2, w3, w4⟩ := hi.w
  obtain ⟨g1, g2, g3, g4, g5, g6, g7, g8⟩ := hi.bd
  rw [law29_RemindersAll, awake29]
  simp only [Option.bind_some, if_true]
  by_cases c1 : (7 : Int) < (ls.length : Int)
  · simp [c1, law29_RemindersAll_J1]
  rw [if_neg c1]
  by_cases c2 : (2000 : Int) < (a4.length : Int)
  · simp [c2, law29_RemindersAll_J1]
  simp only [c2, decide_false, law29_RemindersAll_J1, Bool.false_eq_true, if_false, law29_RemindersAll_J7]
  rw [w1, w2, w3]
  have z1 : zN.size = 1 := rfl
  rcases set_step 4000 (by omega) vr_nil (k := zN) (now := a0) (p := a1 % 30 + 1) (n := a2 % 20 + 1) (by omega) (by omega) (by omega) (by omega) (by omega) (by omega) (by omega) (by omega) with ⟨q1, q2, q3⟩ | ⟨u, q1, q2, q3, q4⟩
  · simp at q3
  rw [q1, Option.bind_some, if_pos rfl]
  refine all_L1 4000 (by omega) hi _ (fun t ht => ?_) ls 0 u hw ⟨q2, fun y hy => ?_, (q3 _).2 (.inl rfl)⟩ (by simp only [List.length_nil] at q4; omega)
  · rw [law29_RemindersAll_J6]
    obtain ⟨s1, s2⟩ := sumL_bd t ht.lf
    have hl := ht.vr.len
    refine all_L2 4000 (by omega) hi a4 h4 _ (fun t c h hl => all_J5 4000 (by omega) hi h hl) 4000 t 0 0 (by omega) (by omega) (by omega) ⟨ht.vr, ht.lf, by omega, by omega, .inl ⟨by omega, ?_⟩, by omega⟩
    have := ht.z
    simpa using this
  · rcases (q3 y).1 hy with rfl | ⟨hy, _⟩
    · simp only; omega
    · simp at hy
end Go.Proofs.Ythdbndgfjldhpaa
