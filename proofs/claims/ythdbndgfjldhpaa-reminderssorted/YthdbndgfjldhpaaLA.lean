/- Plain facts on the models; no program in sight. -/
import Derived.Test.YthdbndgfjldhpaaM
set_option linter.unusedSimpArgs false
set_option linter.unusedVariables false
namespace Go.Proofs.Ythdbndgfjldhpaa
open Go Go.Proofs Go.Abs
theorem w64 {n : Int} (h1 : -9223372036854775808 ≤ n) (h2 : n ≤ 9223372036854775807) : IntKind.i64.wrap n = n := wrap64_in h1 h2
theorem bl_irrefl : ∀ x : List UInt8, Op.bytesLess x x = false
  | [] => rfl
  | a :: x => by simp [Op.bytesLess, bl_irrefl x]
theorem bl_trans : ∀ {x y z : List UInt8}, Op.bytesLess x y = true → Op.bytesLess y z = true → Op.bytesLess x z = true
  | _, [], _, h1, h2 => by simp [Op.bytesLess] at h1
  | _, _ :: _, [], h1, h2 => by simp [Op.bytesLess] at h2
  | [], _ :: _, _ :: _, h1, h2 => rfl
  | a :: x, b :: y, c :: z, h1, h2 => by
    simp only [Op.bytesLess, Bool.or_eq_true, decide_eq_true_eq, Bool.and_eq_true, beq_iff_eq] at h1 h2 ⊢
    rcases h1 with h1 | ⟨rfl, h1⟩
    · rcases h2 with h2 | ⟨rfl, h2⟩
      · exact .inl (UInt8.lt_trans h1 h2)
      · exact .inl h1
    · rcases h2 with h2 | ⟨rfl, h2⟩
      · exact .inl h2
      · exact .inr ⟨rfl, bl_trans h1 h2⟩
theorem bl_tri : ∀ x y : List UInt8, Op.bytesLess x y = true ∨ x = y ∨ Op.bytesLess y x = true
  | [], [] => .inr (.inl rfl)
  | [], _ :: _ => .inl rfl
  | _ :: _, [] => .inr (.inr rfl)
  | a :: x, b :: y => by
    simp only [Op.bytesLess, Bool.or_eq_true, decide_eq_true_eq, Bool.and_eq_true, beq_iff_eq]
    rcases UInt8.lt_or_lt_of_ne (a := a) (b := b) |> fun h => (Classical.em (a = b)).imp id h with rfl | h | h
    · rcases bl_tri x y with h | rfl | h
      · exact .inl (.inr ⟨rfl, h⟩)
      · exact .inr (.inl rfl)
      · exact .inr (.inr (.inr ⟨rfl, h⟩))
    · exact .inl (.inl h)
    · exact .inr (.inr (.inl h))
theorem sEq_iff {a b : ByteArray} : sEq a b = true ↔ a = b := by
  unfold sEq
  rw [beq_iff_eq, ByteArray.toList_eq, ByteArray.toList_eq]
  obtain ⟨⟨x⟩⟩ := a
  obtain ⟨⟨y⟩⟩ := b
  simp
theorem toList_inj {a b : ByteArray} (h : a.toList = b.toList) : a = b := sEq_iff.1 (by simpa [sEq] using h)
theorem sLt_irrefl (a : ByteArray) : sLt a a = false := bl_irrefl _
theorem sLt_trans {a b c : ByteArray} (h1 : sLt a b = true) (h2 : sLt b c = true) : sLt a c = true := bl_trans h1 h2
theorem sLt_tri (a b : ByteArray) : sLt a b = true ∨ a = b ∨ sLt b a = true := by
  rcases bl_tri a.toList b.toList with h | h | h
  · exact .inl h
  · exact .inr (.inl (toList_inj h))
  · exact .inr (.inr h)
def cmpS (a b : ByteArray) : Int := if sLt a b = true then -1 else if sEq a b = true then 0 else 1
theorem cmp_eq (N : Nat) (a b : ByteArray) : cmp_Compare_string N a b = some (cmpS a b) := by
  have n1 : sEq a a = true := sEq_iff.2 rfl
  have n2 : sEq b b = true := sEq_iff.2 rfl
  simp only [cmp_Compare_string, cmp_isNaN_string, n1, n2, Option.bind_some, cmpS]
  cases sLt a b <;> cases sEq a b <;> rfl
theorem cmpS_zero {a b : ByteArray} : cmpS a b = 0 ↔ a = b := by
  unfold cmpS
  constructor
  · intro h
    split at h
    · omega
    · split at h
      · rename_i e; exact sEq_iff.1 e
      · omega
  · rintro rfl
    simp [sLt_irrefl, sEq_iff.2 rfl]
theorem cmpS_neg {a b : ByteArray} : cmpS a b < 0 ↔ sLt a b = true := by
  unfold cmpS
  split
  · simp [*]
  · split <;> simp [*]
end Go.Proofs.Ythdbndgfjldhpaa

set_option linter.unusedSimpArgs false
set_option linter.unusedVariables false
namespace Go.Proofs.Ythdbndgfjldhpaa
open Go Go.Proofs Go.Abs
structure OkR (r : Reminder) : Prop where
  n1 : 1 ≤ r.Name.size
  n2 : r.Name.size ≤ 32
  d0 : 0 ≤ r.Due
  d1 : r.Due ≤ 1099511627776
  p0 : 1 ≤ r.Period
  p1 : r.Period ≤ 1099511627776
  l0 : 1 ≤ r.Left
  l1 : r.Left ≤ 1099511627776
  fit : (r.Left - 1) * r.Period ≤ 1099511627776 - r.Due
structure VR (t : List Reminder) : Prop where
  len : t.length ≤ 8
  ok : ∀ r ∈ t, OkR r
  so : t.Pairwise fun a b => sLt a.Name b.Name = true
theorem name_of (N : Nat) {s : ByteArray} (h1 : 1 ≤ s.size) (h2 : s.size ≤ 32) : reminders_validName N s = some true := by
  unfold reminders_validName
  rw [if_pos (by omega)]
  have : (s.size : Int) ≤ 32 := by omega
  simp [this]
theorem between_of (N : Nat) {n lo : Int} (h1 : lo ≤ n) (h2 : n ≤ 1099511627776) : reminders_between N n lo = some true := by
  unfold reminders_between
  rw [if_pos h1]
  simp [h2]
theorem fit_iff {l d p : Int} (hd : 0 ≤ d) (hd1 : d ≤ 1099511627776) (hp : 1 ≤ p) : l ≤ Int.tdiv (1099511627776 - d) p ↔ l * p ≤ 1099511627776 - d := by
  rw [Int.tdiv_eq_ediv_of_nonneg (by omega), Int.le_ediv_iff_mul_le (by omega)]
theorem tdiv_bd {d p : Int} (hd : 0 ≤ d) (hd1 : d ≤ 1099511627776) (hp : 1 ≤ p) : 0 ≤ Int.tdiv (1099511627776 - d) p ∧ Int.tdiv (1099511627776 - d) p ≤ 1099511627776 := by
  rw [Int.tdiv_eq_ediv_of_nonneg (by omega)]
  refine ⟨Int.ediv_nonneg (by omega) (by omega), ?_⟩
  have := Int.ediv_le_self p (a := 1099511627776 - d) (by omega)
  omega
theorem vrem (N : Nat) {r : Reminder} (h : OkR r) : reminders_validReminder N r = some true := by
  have a1 := h.d0; have a2 := h.d1; have a3 := h.p0; have a4 := h.p1; have a5 := h.l0; have a6 := h.l1; have a7 := h.fit
  obtain ⟨b1, b2⟩ := tdiv_bd a1 a2 a3
  simp only [reminders_validReminder, name_of N h.n1 h.n2, between_of N a1 a2, between_of N a3 a4, between_of N a5 a6, Option.bind_some, if_true]
  unfold dvx
  rw [if_neg (by omega), w64 (by omega) (by omega), w64 (n := 1099511627776 - r.Due) (by omega) (by omega), w64 (by omega) (by omega)]
  simp [(fit_iff a1 a2 a3).2 a7]
theorem valid_L1 (N : Nat) {t : List Reminder} (h : VR t) : ∀ (xs : List Reminder) (v : Nat), t.drop v = xs → reminders_Valid_L1 N t xs v () = some true
  | [], v, hd => rfl
  | x :: xs, v, hd => by
    have hl := h.len
    have hvl : v < t.length := by
      rcases Nat.lt_or_ge v t.length with h | h
      · exact h
      · rw [List.drop_eq_nil_of_le h] at hd; simp at hd
    rw [List.drop_eq_getElem_cons hvl] at hd
    simp only [List.cons.injEq] at hd
    have hx : t[v]? = some x := by rw [List.getElem?_eq_getElem hvl, hd.1]
    have ih := valid_L1 N h xs (v + 1) hd.2
    rw [reminders_Valid_L1, vrem N (h.ok x (List.mem_of_getElem? hx))]
    simp only [Option.bind_some, if_true]
    by_cases h0 : 0 < v
    · have hp : t[v - 1]? = some t[v - 1] := List.getElem?_eq_getElem (by omega)
      have hlt := List.pairwise_iff_getElem.1 h.so (v - 1) v (by omega) hvl (by omega)
      rw [hd.1] at hlt
      rw [if_pos (by omega), w64 (by omega) (by omega), show ((v : Int) - 1) = ((v - 1 : Nat) : Int) by omega, gx_nat hp]
      simp [hlt, reminders_Valid_J1, ih]
    · rw [if_neg (by omega)]
      simp [reminders_Valid_J1, ih]
theorem valid_of (N : Nat) {t : List Reminder} (h : VR t) : reminders_Valid N t = some true := by
  have hl := h.len
  unfold reminders_Valid
  rw [if_neg (by omega)]
  exact valid_L1 N h t 0 rfl
def ltN (k : ByteArray) (r : Reminder) : Bool := sLt r.Name k
def plc (t : List Reminder) (k : ByteArray) : Nat := (t.takeWhile (ltN k)).length
theorem plc_le (t : List Reminder) (k : ByteArray) : plc t k ≤ t.length := (List.takeWhile_sublist (ltN k)).length_le
theorem plc_lt : ∀ {t : List Reminder} {k : ByteArray}, (t.Pairwise fun a b => sLt a.Name b.Name = true) → ∀ {i : Nat} {r : Reminder}, t[i]? = some r → (sLt r.Name k = true ↔ i < plc t k)
  | [], k, hp, i, r, hr => by simp at hr
  | x :: xs, k, hp, i, r, hr => by
    rw [List.pairwise_cons] at hp
    by_cases h : sLt x.Name k = true
    · have e : plc (x :: xs) k = plc xs k + 1 := by simp [plc, List.takeWhile_cons, ltN, h]
      rw [e]
      cases i with
      | zero => simp only [List.getElem?_cons_zero, Option.some.injEq] at hr; subst hr; simp [h]
      | succ i =>
        rw [List.getElem?_cons_succ] at hr
        rw [plc_lt hp.2 hr]; omega
    · have e : plc (x :: xs) k = 0 := by simp [plc, List.takeWhile_cons, ltN, h]
      rw [e]
      constructor
      · intro hlt
        exfalso
        cases i with
        | zero => simp only [List.getElem?_cons_zero, Option.some.injEq] at hr; subst hr; exact h hlt
        | succ i =>
          rw [List.getElem?_cons_succ] at hr
          exact h (sLt_trans (hp.1 r (List.mem_of_getElem? hr)) hlt)
      · omega
def hasN (t : List Reminder) (k : ByteArray) : Bool := match t[plc t k]? with
  | some s => decide (s.Name = k)
  | none => false
theorem hasN_some {t : List Reminder} {k : ByteArray} (h : hasN t k = true) : ∃ s, t[plc t k]? = some s ∧ s.Name = k := by
  unfold hasN at h
  split at h
  · rename_i s hs; exact ⟨s, hs, by simpa using h⟩
  · cases h
theorem hasN_mem {t : List Reminder} (hp : t.Pairwise fun a b => sLt a.Name b.Name = true) {s : Reminder} (hs : s ∈ t) : t[plc t s.Name]? = some s ∧ hasN t s.Name = true := by
  obtain ⟨i, hi⟩ := List.mem_iff_getElem?.1 hs
  have h1 := plc_lt hp hi (k := s.Name)
  rw [sLt_irrefl] at h1
  have hle : plc t s.Name ≤ i := by
    rcases Nat.lt_or_ge i (plc t s.Name) with h | h
    · exact absurd (h1.2 h) (by simp)
    · exact h
  have hil := (List.getElem?_eq_some_iff.1 hi).1
  have hpl : plc t s.Name < t.length := by omega
  have e : plc t s.Name = i := by
    rcases Nat.lt_or_ge (plc t s.Name) i with h | h
    · exfalso
      have h2 := plc_lt hp (List.getElem?_eq_getElem hpl) (k := s.Name)
      have h3 := List.pairwise_iff_getElem.1 hp _ i hpl hil h
      have h4 : t[i] = s := by rw [List.getElem?_eq_getElem hil] at hi; exact Option.some.inj hi
      rw [h4] at h3
      have := h2.1 h3
      omega
    · omega
  rw [e]
  refine ⟨hi, ?_⟩
  unfold hasN
  rw [e, hi]
  simp
theorem mid_eq {i j : Nat} (h : i + j ≤ 1000000) : IntKind.i64.wrap (shrI .u64 (IntKind.u64.wrap (IntKind.i64.wrap ((i : Int) + (j : Int)))) 1) = (((i + j) / 2 : Nat) : Int) := by
  rw [w64 (n := (i : Int) + (j : Int)) (by omega) (by omega)]
  have e : IntKind.u64.wrap ((i : Int) + (j : Int)) = (i : Int) + (j : Int) := wrap_in ⟨by show (0 : Int) ≤ _; omega, by show _ ≤ (18446744073709551615 : Int); omega⟩
  rw [e]
  have e2 : shrI .u64 ((i : Int) + (j : Int)) 1 = (((i + j) / 2 : Nat) : Int) := by
    show ((i : Int) + (j : Int)).fdiv 2 = _
    rw [Int.fdiv_eq_ediv_of_nonneg _ (by omega)]
    omega
  rw [e2, w64 (by omega) (by omega)]
theorem find_1_eq (N : Nat) (r : Reminder) (k : ByteArray) : reminders_find_1 N r k = some (cmpS r.Name k) := by
  simp only [reminders_find_1, cmp_eq, Option.bind_some]
theorem bs_L1 {t : List Reminder} (ht : t.length ≤ 8) (hp : t.Pairwise fun a b => sLt a.Name b.Name = true) (N : Nat) (k : ByteArray) (kx : Int → Option (Int × Bool)) :
    ∀ (n i j : Nat), j < i + n → i ≤ plc t k → plc t k ≤ j → j ≤ t.length → slices_BinarySearchFunc_string_reminders_find_1_L1 t N k kx n ((i : Int), (j : Int)) = kx ((plc t k : Nat) : Int)
  | 0, i, j, h1, h2, h3, h4 => by omega
  | n + 1, i, j, h1, h2, h3, h4 => by
    rw [slices_BinarySearchFunc_string_reminders_find_1_L1]
    by_cases h : i < j
    · rw [if_pos (by omega), mid_eq (by omega)]
      have hm : (i + j) / 2 < t.length := by omega
      have hx : t[(i + j) / 2]? = some t[(i + j) / 2] := List.getElem?_eq_getElem hm
      have hc := plc_lt hp hx (k := k)
      rw [gx_nat hx, find_1_eq]
      simp only [Option.bind_some, cmpS_neg]
      by_cases hs : sLt t[(i + j) / 2].Name k = true
      · rw [if_pos hs, w64 (by omega) (by omega)]
        have := hc.1 hs
        exact bs_L1 ht hp N k kx n ((i + j) / 2 + 1) j (by omega) (by omega) h3 h4
      · rw [if_neg hs]
        have : ¬ (i + j) / 2 < plc t k := fun q => hs (hc.2 q)
        exact bs_L1 ht hp N k kx n i ((i + j) / 2) (by omega) h2 (by omega) (by omega)
    · rw [if_neg (by omega)]
      have : i = plc t k := by omega
      rw [this]
theorem find_eq (N : Nat) (hN : 9 ≤ N) {t : List Reminder} (h : VR t) (k : ByteArray) : reminders_find N t k = some (((plc t k : Nat) : Int), hasN t k) := by
  have hl := h.len
  have hp := plc_le t k
  have := bs_L1 hl h.so N k (slices_BinarySearchFunc_string_reminders_find_1_J1 t N k) N 0 t.length (by omega) (by omega) hp (by omega)
  simp only [reminders_find, slices_BinarySearchFunc_string_reminders_find_1]
  rw [show ((0 : Int)) = ((0 : Nat) : Int) from rfl, this]
  unfold slices_BinarySearchFunc_string_reminders_find_1_J1 hasN
  cases hq : t[plc t k]? with
  | none =>
    have := List.getElem?_eq_none_iff.1 hq
    rw [if_neg (by omega)]; rfl
  | some s =>
    have := (List.getElem?_eq_some_iff.1 hq).1
    rw [if_pos (by omega), gx_nat hq, find_1_eq]
    simp [cmpS_zero]
end Go.Proofs.Ythdbndgfjldhpaa

set_option linter.unusedSimpArgs false
set_option linter.unusedVariables false
namespace Go.Proofs.Ythdbndgfjldhpaa
open Go Go.Proofs Go.Abs
def insRev : List Reminder → Reminder → List Reminder
  | [], x => [x]
  | a :: r, x => if x.Due < a.Due then a :: insRev r x else x :: a :: r
theorem insRev_len : ∀ (r : List Reminder) (x : Reminder), (insRev r x).length = r.length + 1
  | [], x => rfl
  | a :: r, x => by unfold insRev; split <;> simp [insRev_len r x]
theorem insRev_mem : ∀ {r : List Reminder} {x y : Reminder}, y ∈ insRev r x ↔ y = x ∨ y ∈ r
  | [], x, y => by simp [insRev]
  | a :: r, x, y => by
    unfold insRev
    split
    · simp only [List.mem_cons, insRev_mem]
      constructor
      · rintro (h | h | h) <;> simp [h]
      · rintro (h | h | h) <;> simp [h]
    · simp
def srt : List Reminder → List Reminder → List Reminder
  | ra, [] => ra
  | ra, x :: l => srt (insRev ra x) l
theorem srt_len : ∀ (l ra : List Reminder), (srt ra l).length = ra.length + l.length
  | [], ra => rfl
  | x :: l, ra => by rw [srt, srt_len l, insRev_len, List.length_cons]; omega
theorem srt_mem : ∀ {l ra : List Reminder} {y : Reminder}, y ∈ srt ra l ↔ y ∈ ra ∨ y ∈ l
  | [], ra, y => by simp [srt]
  | x :: l, ra, y => by
    rw [srt, srt_mem, insRev_mem, List.mem_cons]
    constructor
    · rintro ((h | h) | h) <;> simp [h]
    · rintro (h | h | h) <;> simp [h]
theorem cmpI_eq (N : Nat) (a b : Int) : cmp_Compare_int N a b = some (if a < b then -1 else if b < a then 1 else 0) := by
  simp only [cmp_Compare_int, cmp_isNaN_int, Option.bind_some]
  by_cases h1 : a < b
  · simp [h1]
  · by_cases h2 : b < a <;> simp [h1, h2]
theorem due1_eq (N : Nat) (x y : Reminder) : ∃ c, reminders_Due_1 N x y = some c ∧ (c < 0 ↔ x.Due < y.Due) := by
  simp only [reminders_Due_1, cmpI_eq, Option.bind_some]
  refine ⟨_, rfl, ?_⟩
  split
  · simp [*]
  · split <;> simp [*]
theorem getR {A B : List Reminder} {x : Reminder} {n : Nat} (h : A.length = n) : (A ++ x :: B)[n]? = some x := by
  subst h; simp
theorem setR {A B : List Reminder} {x y : Reminder} {n : Nat} (h : A.length = n) : (A ++ x :: B).set n y = A ++ y :: B := by
  subst h; simp
theorem ins_L2 (N : Nat) (rec3 : (List Reminder × Int) → Option (List Reminder)) (v2 : Int) : ∀ (ra : List Reminder) (x : Reminder) (B : List Reminder) (n : Nat), ra.length < n → ra.length + B.length ≤ 1000 →
    slices_insertionSortCmpFunc_Reminder_reminders_Due_1_L2 0 N rec3 v2 n (ra.reverse ++ x :: B, (ra.length : Int)) = rec3 ((insRev ra x).reverse ++ B, IntKind.i64.wrap (v2 + 1))
  | [], x, B, 0, h, _ => by simp at h
  | [], x, B, n + 1, h, _ => by
    rw [slices_insertionSortCmpFunc_Reminder_reminders_Due_1_L2, if_neg (by simp)]
    simp [slices_insertionSortCmpFunc_Reminder_reminders_Due_1_J1, insRev]
  | a :: r, x, B, 0, h, _ => by simp at h
  | a :: r, x, B, n + 1, h, hb => by
    simp only [List.length_cons] at h hb
    have hl : ((a :: r).reverse ++ x :: B) = (r.reverse ++ [a]) ++ x :: B := by simp
    have hl2 : ((a :: r).reverse ++ x :: B) = r.reverse ++ a :: x :: B := by simp
    have g1 : ((a :: r).reverse ++ x :: B)[r.length + 1]? = some x := by rw [hl]; exact getR (by simp)
    have g2 : ((a :: r).reverse ++ x :: B)[r.length]? = some a := by rw [hl2]; exact getR (by simp)
    have ew : IntKind.i64.wrap ((((a :: r).length : Nat) : Int) - 1) = ((r.length : Nat) : Int) := by
      rw [List.length_cons, w64 (by omega) (by omega)]; omega
    rw [slices_insertionSortCmpFunc_Reminder_reminders_Due_1_L2, if_pos (by simp only [List.length_cons]; omega), ew, List.length_cons, gx_nat g1, gx_nat g2]
    obtain ⟨c, hc, hn⟩ := due1_eq N x a
    rw [hc, Option.bind_some]
    by_cases hx : x.Due < a.Due
    · have : c < 0 := hn.2 hx
      have ew' : IntKind.i64.wrap (((r.length + 1 : Nat) : Int) - 1) = ((r.length : Nat) : Int) := by rw [w64 (by omega) (by omega)]; omega
      simp only [this, decide_true, slices_insertionSortCmpFunc_Reminder_reminders_Due_1_J1, if_true, slices_insertionSortCmpFunc_Reminder_reminders_Due_1_J2, ew', gx_nat g2, gx_nat g1, Int.toNat_natCast]
      have s1 : ((a :: r).reverse ++ x :: B).set (r.length + 1) a = r.reverse ++ a :: a :: B := by rw [hl, setR (by simp)]; simp
      have g3 : (r.reverse ++ a :: a :: B)[r.length]? = some a := getR (by simp)
      rw [s1, gx_nat g3, setR (by simp)]
      rw [ins_L2 N rec3 v2 r x (a :: B) n (by omega) (by simp only [List.length_cons]; omega)]
      simp [insRev, hx]
    · have : ¬ c < 0 := fun q => hx (hn.1 q)
      simp only [this, decide_false, slices_insertionSortCmpFunc_Reminder_reminders_Due_1_J1, Bool.false_eq_true, if_false]
      simp [insRev, hx]
theorem ins_L1 (N : Nat) (hN : 1001 ≤ N) (a2 : Int) : ∀ (B ra : List Reminder) (n : Nat), B.length < n → a2 = ((ra.length + B.length : Nat) : Int) → ra.length + B.length ≤ 1000 →
    slices_insertionSortCmpFunc_Reminder_reminders_Due_1_L1 a2 0 N n (ra.reverse ++ B, (ra.length : Int)) = some (srt ra B).reverse
  | _, _, 0, h, _, _ => by omega
  | [], ra, n + 1, h, ha, hb => by
    rw [slices_insertionSortCmpFunc_Reminder_reminders_Due_1_L1, if_neg (by rw [ha]; simp)]
    simp [srt]
  | x :: B, ra, n + 1, h, ha, hb => by
    simp only [List.length_cons] at h ha hb
    rw [slices_insertionSortCmpFunc_Reminder_reminders_Due_1_L1, if_pos (by rw [ha]; omega), ins_L2 N _ _ ra x B N (by omega) (by omega)]
    have e : IntKind.i64.wrap ((ra.length : Int) + 1) = (((insRev ra x).length : Nat) : Int) := by rw [insRev_len, w64 (by omega) (by omega)]; omega
    rw [e, ins_L1 N hN a2 B (insRev ra x) n (by omega) (by rw [insRev_len, ha]; omega) (by rw [insRev_len]; omega), srt]
theorem ins_eq (N : Nat) (hN : 1001 ≤ N) (l : List Reminder) (hl : l.length ≤ 1000) : slices_insertionSortCmpFunc_Reminder_reminders_Due_1 N l 0 (l.length : Int) = some (srt [] l).reverse := by
  have e : slices_insertionSortCmpFunc_Reminder_reminders_Due_1_L1 (l.length : Int) 0 N N (l, IntKind.i64.wrap (0 + 1)) = some (srt [] l).reverse := by
    rw [w64 (by omega) (by omega)]
    cases l with
    | nil =>
      obtain ⟨n, rfl⟩ : ∃ n, N = n + 1 := ⟨N - 1, by omega⟩
      rw [slices_insertionSortCmpFunc_Reminder_reminders_Due_1_L1, if_neg (by simp)]
      simp [srt]
    | cons x B =>
      have := ins_L1 N hN (((x :: B).length : Nat) : Int) B [x] N (by simp only [List.length_cons] at hl; omega) (by simp only [List.length_cons, List.length_nil]; omega) (by simp only [List.length_cons, List.length_nil] at hl ⊢; omega)
      simpa [srt, insRev] using this
  unfold slices_insertionSortCmpFunc_Reminder_reminders_Due_1
  rw [e]
  simp [lenM, srt_len]
theorem sort_eq (N : Nat) (hN : 1001 ≤ N) (l : List Reminder) (hl : l.length ≤ 8) : slices_SortStableFunc_Reminder_reminders_Due_1 N l = some (srt [] l).reverse := by
  have hi := ins_eq N hN l (by omega)
  obtain ⟨n, rfl⟩ : ∃ n, N = n + 1 := ⟨N - 1, by omega⟩
  have e : slices_stableCmpFunc_Reminder_reminders_Due_1 (n + 1) l (l.length : Int) = some (srt [] l).reverse := by
    unfold slices_stableCmpFunc_Reminder_reminders_Due_1
    rw [slices_stableCmpFunc_Reminder_reminders_Due_1_L1, if_neg (by omega), slices_stableCmpFunc_Reminder_reminders_Due_1_J2, hi, Option.bind_some, slices_stableCmpFunc_Reminder_reminders_Due_1_L2, if_neg (by omega)]
    simp [lenM, srt_len]
  unfold slices_SortStableFunc_Reminder_reminders_Due_1
  rw [e]
  simp [lenM, srt_len]
def dueL (t : List Reminder) (now : Int) : List Reminder := (srt [] (t.filter fun r => decide (r.Due ≤ now))).reverse
theorem due_L1 (kx : List Reminder → Option (List Reminder)) (now : Int) : ∀ (xs : List Reminder) (v : Nat) (l : List Reminder), l.length + xs.length ≤ 8 → reminders_Due_L1 kx now xs v l = kx (l ++ xs.filter fun r => decide (r.Due ≤ now))
  | [], v, l, _ => by simp [reminders_Due_L1]
  | x :: xs, v, l, h => by
    simp only [List.length_cons] at h
    rw [reminders_Due_L1]
    by_cases hx : x.Due ≤ now
    · rw [if_pos hx, apx_ok (by simp only [List.length_cons, List.length_nil]; omega), due_L1 kx now xs _ _ (by simp; omega)]
      simp [List.filter_cons, hx]
    · rw [if_neg hx, due_L1 kx now xs _ _ (by omega)]
      simp [List.filter_cons, hx]
theorem due_eq (N : Nat) (hN : 1001 ≤ N) {t : List Reminder} (h : VR t) (now : Int) : reminders_Due N t now = some (dueL t now) := by
  have hl := h.len
  have hf := List.length_filter_le (fun r : Reminder => decide (r.Due ≤ now)) t
  simp only [reminders_Due, valid_of N h, Option.bind_some, if_true]
  rw [due_L1 _ _ _ _ _ (by simpa using hl), List.nil_append, reminders_Due_J1, sort_eq N hN _ (by omega), Option.bind_some]
  rfl
theorem dueL_mem {t : List Reminder} {now : Int} {x : Reminder} : x ∈ dueL t now ↔ x ∈ t ∧ x.Due ≤ now := by
  simp [dueL, srt_mem]
theorem dueL_len (t : List Reminder) (now : Int) : (dueL t now).length = (t.filter fun r => decide (r.Due ≤ now)).length := by simp [dueL, srt_len]
def ltD (a b : Reminder) : Prop := a.Due < b.Due ∨ (a.Due = b.Due ∧ sLt a.Name b.Name = true)
theorem ltD_trans {a b c : Reminder} (h1 : ltD a b) (h2 : ltD b c) : ltD a c := by
  rcases h1 with h1 | ⟨h1, h1'⟩ <;> rcases h2 with h2 | ⟨h2, h2'⟩
  · exact .inl (by omega)
  · exact .inl (by omega)
  · exact .inl (by omega)
  · exact .inr ⟨by omega, sLt_trans h1' h2'⟩
theorem insRev_sorted : ∀ {ra : List Reminder} {x : Reminder}, (ra.Pairwise fun a b => ltD b a) → (∀ a ∈ ra, sLt a.Name x.Name = true) → (insRev ra x).Pairwise fun a b => ltD b a
  | [], x, _, _ => by simp [insRev]
  | a :: r, x, hp, hn => by
    rw [List.pairwise_cons] at hp
    have hnr : ∀ b ∈ r, sLt b.Name x.Name = true := fun b hb => hn b (by simp [hb])
    unfold insRev
    split
    · rename_i hx
      rw [List.pairwise_cons]
      refine ⟨fun b hb => ?_, insRev_sorted hp.2 hnr⟩
      rcases insRev_mem.1 hb with rfl | hb
      · exact .inl hx
      · exact hp.1 b hb
    · rename_i hx
      have hax : ltD a x := by
        by_cases e : a.Due = x.Due
        · exact .inr ⟨e, hn a (by simp)⟩
        · exact .inl (by omega)
      rw [List.pairwise_cons]
      refine ⟨fun b hb => ?_, List.pairwise_cons.2 hp⟩
      rcases List.mem_cons.1 hb with rfl | hb
      · exact hax
      · exact ltD_trans (hp.1 b hb) hax
theorem srt_sorted : ∀ {l ra : List Reminder}, (ra.Pairwise fun a b => ltD b a) → (∀ a ∈ ra, ∀ b ∈ l, sLt a.Name b.Name = true) → (l.Pairwise fun a b => sLt a.Name b.Name = true) → (srt ra l).Pairwise fun a b => ltD b a
  | [], ra, hp, _, _ => hp
  | x :: l, ra, hp, hn, hl => by
    rw [List.pairwise_cons] at hl
    rw [srt]
    refine srt_sorted (insRev_sorted hp fun a ha => hn a ha x (by simp)) (fun a ha b hb => ?_) hl.2
    rcases insRev_mem.1 ha with rfl | ha
    · exact hl.1 b hb
    · exact hn a ha b (by simp [hb])
theorem dueL_sorted {t : List Reminder} (h : VR t) (now : Int) : (dueL t now).Pairwise ltD := by
  unfold dueL
  rw [List.pairwise_reverse]
  exact srt_sorted List.Pairwise.nil (by simp) (h.so.sublist List.filter_sublist)
end Go.Proofs.Ythdbndgfjldhpaa

set_option linter.unusedSimpArgs false
set_option linter.unusedVariables false
namespace Go.Proofs.Ythdbndgfjldhpaa
open Go Go.Proofs Go.Abs
theorem clone_eq (N : Nat) {t : List Reminder} (h : t.length ≤ 8) : slices_Clone_Reminder N t = some t := by
  simp only [slices_Clone_Reminder]
  rw [apn_ok (by omega)]
def putR (t : List Reminder) (r : Reminder) : List Reminder := if hasN t r.Name = true then t.set (plc t r.Name) r else t.take (plc t r.Name) ++ [r] ++ t.drop (plc t r.Name)
theorem set_eq (N : Nat) (hN : 9 ≤ N) {t : List Reminder} (h : VR t) {now p n : Int} {nm : ByteArray} (hn0 : 0 ≤ now) (hn1 : now ≤ 1099511627776) (hs1 : 1 ≤ nm.size) (hs2 : nm.size ≤ 32) (hp0 : 1 ≤ p) (hp1 : p ≤ 1099511627776) (hk0 : 1 ≤ n) (hk1 : n ≤ 1099511627776) :
    reminders_Set N t now nm p n = some (if 1099511627776 - now < n * p then ([], 5) else if hasN t nm = false ∧ t.length = 8 then ([], 5) else (putR t ⟨nm, now + p, p, n⟩, 0)) := by
  have hl := h.len
  have hpl := plc_le t nm
  obtain ⟨b1, b2⟩ := tdiv_bd hn0 hn1 hp0
  have hf := fit_iff (l := n) hn0 hn1 hp0
  simp only [reminders_Set, valid_of N h, between_of N hn0 hn1, name_of N hs1 hs2, between_of N hp0 hp1, between_of N hk0 hk1, Option.bind_some, if_true, Bool.not_true, reminders_Set_J1, Bool.false_eq_true, if_false, reminders_Set_J4, find_eq N hN h]
  unfold dvx
  rw [if_neg (by omega), w64 (n := 1099511627776 - now) (by omega) (by omega), w64 (by omega) (by omega)]
  by_cases hc : 1099511627776 - now < n * p
  · have : Int.tdiv (1099511627776 - now) p < n := by
      rcases Int.lt_or_le (Int.tdiv (1099511627776 - now) p) n with q | q
      · exact q
      · have := hf.1 q; omega
    rw [if_pos this, if_pos hc]
  · have : ¬ Int.tdiv (1099511627776 - now) p < n := by
      have := hf.2 (by omega); omega
    rw [if_neg this, if_neg hc]
    have e : Int.tdiv (1099511627776 - now) p ≤ 1099511627776 := b2
    cases hh : hasN t nm
    · by_cases h8 : t.length = 8
      · have h8' : (t.length : Int) = 8 := by omega
        simp [h8, h8', reminders_Set_J2]
      · have h8' : ¬ (t.length : Int) = 8 := by omega
        simp only [Bool.false_eq_true, if_false, h8, h8', and_false, decide_false, reminders_Set_J2, reminders_Set_J3, clone_eq N hl, Option.bind_some, slices_Insert_Reminder, insM]
        rw [if_pos ⟨by omega, by omega, rfl, by omega⟩]
        simp [putR, hh]
        rw [w64 (by omega) (by omega)]
    · obtain ⟨s, hs, _⟩ := hasN_some hh
      simp only [if_true, Bool.true_eq_false, false_and, if_false, reminders_Set_J2, Bool.false_eq_true, reminders_Set_J3, clone_eq N hl, Option.bind_some, gx_nat hs, Int.toNat_natCast]
      simp [putR, hh]
      rw [w64 (by omega) (by omega)]
theorem cutAt {t : List Reminder} {i : Nat} {s : Reminder} (h : t[i]? = some s) : ∃ A B, t = A ++ s :: B ∧ A.length = i ∧ t.take i = A ∧ t.drop (i + 1) = B := by
  have hi := (List.getElem?_eq_some_iff.1 h).1
  have e : t[i] = s := by rw [List.getElem?_eq_getElem hi] at h; exact Option.some.inj h
  refine ⟨t.take i, t.drop (i + 1), ?_, by simp; omega, rfl, rfl⟩
  rw [← e, ← List.drop_eq_getElem_cons hi, List.take_append_drop]
theorem so_mid {A B : List Reminder} {s r : Reminder} (h : (A ++ s :: B).Pairwise fun a b => sLt a.Name b.Name = true) (e : r.Name = s.Name) : (A ++ r :: B).Pairwise fun a b => sLt a.Name b.Name = true := by
  simp only [List.pairwise_append, List.pairwise_cons, List.mem_cons, forall_eq_or_imp] at h ⊢
  refine ⟨h.1, ⟨fun b hb => by rw [e]; exact h.2.1.1 b hb, h.2.1.2⟩, fun a ha => ⟨by rw [e]; exact (h.2.2 a ha).1, (h.2.2 a ha).2⟩⟩
theorem so_ne {A B : List Reminder} {s y : Reminder} (h : (A ++ s :: B).Pairwise fun a b => sLt a.Name b.Name = true) (hy : y ∈ A ∨ y ∈ B) : y.Name ≠ s.Name := by
  simp only [List.pairwise_append, List.pairwise_cons, List.mem_cons, forall_eq_or_imp] at h
  intro e
  rcases hy with hy | hy
  · have := (h.2.2 y hy).1; rw [e, sLt_irrefl] at this; cases this
  · have := h.2.1.1 y hy; rw [e, sLt_irrefl] at this; cases this
theorem mem_mid {A B : List Reminder} {s y : Reminder} (h : (A ++ s :: B).Pairwise fun a b => sLt a.Name b.Name = true) : (y ∈ A ∨ y ∈ B) ↔ (y ∈ A ++ s :: B ∧ y.Name ≠ s.Name) := by
  constructor
  · intro hy
    refine ⟨?_, so_ne h hy⟩
    rcases hy with hy | hy <;> simp [hy]
  · rintro ⟨hy, hn⟩
    simp only [List.mem_append, List.mem_cons] at hy
    rcases hy with hy | rfl | hy
    · exact .inl hy
    · exact absurd rfl hn
    · exact .inr hy
theorem repl {t : List Reminder} (h : VR t) {i : Nat} {s r : Reminder} (hi : t[i]? = some s) (e : r.Name = s.Name) (hr : OkR r) : VR (t.set i r) ∧ ∀ y, y ∈ t.set i r ↔ y = r ∨ (y ∈ t ∧ y.Name ≠ s.Name) := by
  obtain ⟨A, B, rfl, hA, h1, h2⟩ := cutAt hi
  rw [setR hA]
  have hm : ∀ y, y ∈ A ++ r :: B ↔ y = r ∨ (y ∈ A ++ s :: B ∧ y.Name ≠ s.Name) := by
    intro y
    rw [← mem_mid h.so]
    simp only [List.mem_append, List.mem_cons]
    constructor
    · rintro (h | h | h) <;> simp [h]
    · rintro (h | h | h) <;> simp [h]
  refine ⟨⟨by have := h.len; simpa using this, fun y hy => ?_, so_mid h.so e⟩, hm⟩
  rcases (hm y).1 hy with rfl | ⟨hy, _⟩
  · exact hr
  · exact h.ok y hy
theorem putR_ok {t : List Reminder} (h : VR t) {r : Reminder} (hr : OkR r) (h8 : ¬ (hasN t r.Name = false ∧ t.length = 8)) : VR (putR t r) ∧ (∀ y, y ∈ putR t r ↔ y = r ∨ (y ∈ t ∧ y.Name ≠ r.Name)) ∧ (putR t r).length ≤ t.length + 1 := by
  unfold putR
  cases hh : hasN t r.Name
  · simp only [Bool.false_eq_true, if_false]
    rw [hh] at h8
    have hl := h.len
    have h8' : ¬ t.length = 8 := fun e => h8 ⟨rfl, e⟩
    have hlt : ∀ a ∈ t.take (plc t r.Name), sLt a.Name r.Name = true := by
      intro a ha
      obtain ⟨i, hi⟩ := List.mem_iff_getElem?.1 ha
      have hi1 := (List.getElem?_eq_some_iff.1 hi).1
      simp only [List.length_take] at hi1
      rw [List.getElem?_take_of_lt (by omega)] at hi
      exact (plc_lt h.so hi).2 (by omega)
    have hgt : ∀ a ∈ t.drop (plc t r.Name), sLt r.Name a.Name = true := by
      intro a ha
      obtain ⟨i, hi⟩ := List.mem_iff_getElem?.1 ha
      rw [List.getElem?_drop] at hi
      have h1 := plc_lt h.so hi (k := r.Name)
      have h2 : ¬ sLt a.Name r.Name = true := fun q => by have := h1.1 q; omega
      rcases sLt_tri a.Name r.Name with q | q | q
      · exact absurd q h2
      · exfalso
        have := (hasN_mem h.so (List.mem_of_getElem? hi)).2
        rw [q, hh] at this; cases this
      · exact q
    have hne : ∀ y ∈ t, y.Name ≠ r.Name := by
      intro y hy e
      have := (hasN_mem h.so hy).2
      rw [e, hh] at this; cases this
    have hm : ∀ y, y ∈ t.take (plc t r.Name) ++ [r] ++ t.drop (plc t r.Name) ↔ y = r ∨ (y ∈ t ∧ y.Name ≠ r.Name) := by
      intro y
      have : y ∈ t ↔ y ∈ t.take (plc t r.Name) ∨ y ∈ t.drop (plc t r.Name) := by rw [← List.mem_append, List.take_append_drop]
      simp only [List.mem_append, List.mem_singleton]
      constructor
      · rintro ((q | q) | q)
        · have hy := this.2 (.inl q); exact .inr ⟨hy, hne y hy⟩
        · exact .inl q
        · have hy := this.2 (.inr q); exact .inr ⟨hy, hne y hy⟩
      · rintro (q | ⟨q, _⟩)
        · exact .inl (.inr q)
        · rcases this.1 q with q | q
          · exact .inl (.inl q)
          · exact .inr q
    have hp' := h.so
    rw [← List.take_append_drop (plc t r.Name) t, List.pairwise_append] at hp'
    have hpl := plc_le t r.Name
    refine ⟨⟨by simp; omega, fun y hy => ?_, ?_⟩, hm, by simp; omega⟩
    · rcases (hm y).1 hy with rfl | ⟨hy, _⟩
      · exact hr
      · exact h.ok y hy
    · rw [List.append_assoc, List.pairwise_append]
      refine ⟨hp'.1, ?_, fun a ha b hb => ?_⟩
      · rw [List.singleton_append, List.pairwise_cons]; exact ⟨hgt, hp'.2.1⟩
      · rw [List.singleton_append, List.mem_cons] at hb
        rcases hb with rfl | hb
        · exact hlt a ha
        · exact hp'.2.2 a ha b hb
  · obtain ⟨s, hs, he⟩ := hasN_some hh
    simp only [if_true]
    obtain ⟨a, b⟩ := repl h hs he.symm hr
    rw [he] at b
    exact ⟨a, b, by simp⟩
end Go.Proofs.Ythdbndgfjldhpaa

set_option linter.unusedSimpArgs false
set_option linter.unusedVariables false
namespace Go.Proofs.Ythdbndgfjldhpaa
open Go Go.Proofs Go.Abs
abbrev Act29 := actorgridlaw29_Act
def U8A (x : Act29) : Prop := (0 ≤ x.Kind ∧ x.Kind ≤ 255) ∧ (0 ≤ x.Name ∧ x.Name ≤ 255) ∧ (0 ≤ x.Period ∧ x.Period ≤ 255) ∧ (0 ≤ x.N ∧ x.N ≤ 255) ∧ (0 ≤ x.After ∧ x.After ≤ 255)
def nmK (k : Nat) : ByteArray := (ByteArray.mk #[97, 98, 99, 100, 101, 102, 103, 104, 105, 106]).extract k (k + 1)
def nm (w : Int) : ByteArray := nmK (w % 10).toNat
theorem nmK_ok : ∀ k, k < 10 → (nmK k).size = 1 ∧ nmK k ≠ ⟨#[122]⟩ := by decide
theorem nm_size (w : Int) : (nm w).size = 1 := (nmK_ok _ (by omega)).1
theorem name_eq (N : Nat) {w : Int} (h0 : 0 ≤ w) (h1 : w ≤ 255) : law29_name N w = some (nm w) := by
  have e1 : Int.tmod w 10 = w % 10 := Int.tmod_eq_emod_of_nonneg h0
  have z : (ByteArray.mk #[97, 98, 99, 100, 101, 102, 103, 104, 105, 106]).size = 10 := rfl
  unfold law29_name
  rw [e1, w64 (n := w % 10) (by omega) (by omega), w64 (by omega) (by omega)]
  unfold sls
  rw [if_pos ⟨by omega, by omega, by omega, by rw [z]; omega⟩]
  have : (w % 10 + 1).toNat = (w % 10).toNat + 1 := by omega
  rw [this]
  rfl
theorem mul_bd {a b A B : Int} (ha : 0 ≤ a) (hA : a ≤ A) (hb : 0 ≤ b) (hB : b ≤ B) : 0 ≤ a * b ∧ a * b ≤ A * B := ⟨Int.mul_nonneg ha hb, Int.mul_le_mul hA hB hb (by omega)⟩
theorem newOk {k : ByteArray} {now p n : Int} (hs1 : 1 ≤ k.size) (hs2 : k.size ≤ 32) (h0 : 0 ≤ now) (h1 : now ≤ 20000) (p0 : 1 ≤ p) (p1 : p ≤ 256) (n0 : 1 ≤ n) (n1 : n ≤ 256) : OkR ⟨k, now + p, p, n⟩ ∧ ¬ 1099511627776 - now < n * p := by
  obtain ⟨a1, a2⟩ := mul_bd (a := n) (b := p) (by omega) n1 (by omega) p1
  obtain ⟨b1, b2⟩ := mul_bd (a := n - 1) (b := p) (A := 256) (by omega) (by omega) (by omega) p1
  exact ⟨⟨hs1, hs2, by simp only; omega, by simp only; omega, p0, by simp only; omega, n0, by simp only; omega, by simp only; omega⟩, by omega⟩
theorem set_step (N : Nat) (hN : 9 ≤ N) {t : List Reminder} (h : VR t) {k : ByteArray} {now p n : Int} (hs1 : 1 ≤ k.size) (hs2 : k.size ≤ 32) (h0 : 0 ≤ now) (h1 : now ≤ 20000) (p0 : 1 ≤ p) (p1 : p ≤ 256) (n0 : 1 ≤ n) (n1 : n ≤ 256) :
    (reminders_Set N t now k p n = some ([], 5) ∧ hasN t k = false ∧ t.length = 8) ∨ (∃ u, reminders_Set N t now k p n = some (u, 0) ∧ VR u ∧ (∀ y, y ∈ u ↔ y = ⟨k, now + p, p, n⟩ ∨ (y ∈ t ∧ y.Name ≠ k)) ∧ u.length ≤ t.length + 1) := by
  obtain ⟨a, b⟩ := newOk hs1 hs2 h0 h1 p0 p1 n0 n1
  rw [set_eq N hN h h0 (by omega) hs1 hs2 p0 (by omega) n0 (by omega), if_neg b]
  by_cases hc : hasN t k = false ∧ t.length = 8
  · rw [if_pos hc]; exact .inl ⟨rfl, hc⟩
  · rw [if_neg hc]
    obtain ⟨c, d, e⟩ := putR_ok h a hc
    exact .inr ⟨_, rfl, c, d, e⟩
theorem awake29 : law29_awake 4000 = some true := by decide +kernel
theorem vr_nil : VR [] := ⟨by simp, by simp, List.Pairwise.nil⟩
end Go.Proofs.Ythdbndgfjldhpaa

set_option linter.unusedSimpArgs false
set_option linter.unusedVariables false
namespace Go.Proofs.Ythdbndgfjldhpaa
open Go Go.Proofs Go.Abs
end Go.Proofs.Ythdbndgfjldhpaa

set_option linter.unusedSimpArgs false
set_option linter.unusedVariables false
namespace Go.Proofs.Ythdbndgfjldhpaa
open Go Go.Proofs Go.Abs
def mnD : Int → List Reminder → Int
  | d, [] => d
  | d, x :: xs => mnD (if x.Due < d then x.Due else d) xs
theorem mnD_le : ∀ (xs : List Reminder) (d : Int), mnD d xs ≤ d ∧ ∀ x ∈ xs, mnD d xs ≤ x.Due
  | [], d => by simp [mnD]
  | x :: xs, d => by
    obtain ⟨a, b⟩ := mnD_le xs (if x.Due < d then x.Due else d)
    rw [mnD]
    have c : (if x.Due < d then x.Due else d) ≤ d ∧ (if x.Due < d then x.Due else d) ≤ x.Due := by split <;> omega
    refine ⟨by omega, fun y hy => ?_⟩
    rcases List.mem_cons.1 hy with rfl | hy
    · omega
    · exact b y hy
theorem mnD_mem : ∀ (xs : List Reminder) (d : Int), mnD d xs = d ∨ ∃ x ∈ xs, x.Due = mnD d xs
  | [], d => .inl rfl
  | x :: xs, d => by
    rw [mnD]
    rcases mnD_mem xs (if x.Due < d then x.Due else d) with h | ⟨y, hy, h⟩
    · by_cases c : x.Due < d
      · rw [if_pos c] at h ⊢; exact .inr ⟨x, by simp, h.symm⟩
      · rw [if_neg c] at h ⊢; exact .inl h
    · exact .inr ⟨y, by simp [hy], h⟩
theorem next_L1 : ∀ (xs : List Reminder) (v : Nat) (d : Int), reminders_Next_L1 xs v d = some (mnD d xs, true)
  | [], v, d => rfl
  | x :: xs, v, d => by rw [reminders_Next_L1, next_L1 xs, mnD]
theorem next_nil (N : Nat) : reminders_Next N [] = some (0, false) := by
  simp only [reminders_Next, valid_of N vr_nil, Option.bind_some, if_true, reminders_Next_J1]
  simp
theorem next_cons (N : Nat) {x : Reminder} {xs : List Reminder} (h : VR (x :: xs)) : reminders_Next N (x :: xs) = some (mnD x.Due xs, true) := by
  have hne : ¬ (((x :: xs).length : Nat) : Int) = 0 := by simp only [List.length_cons]; omega
  have hg : (x :: xs)[0]? = some x := rfl
  simp only [reminders_Next, valid_of N h, Option.bind_some, if_true, reminders_Next_J1, hne, decide_false, Bool.false_eq_true, if_false, reminders_Next_J2]
  rw [show ((0 : Int)) = ((0 : Nat) : Int) from rfl, gx_nat hg]
  unfold slx
  rw [if_pos ⟨by omega, by omega, by simp, by simp⟩]
  have e : List.take ((((x :: xs).length : Nat) : Int).toNat - (1 : Int).toNat) (List.drop (1 : Int).toNat (x :: xs)) = xs := by simp
  rw [e]
  exact next_L1 xs 0 x.Due
theorem sorted_L2 (kx : Int → Option Bool) (a1 now : Int) (ew : IntKind.i64.wrap a1 = now) : ∀ (xs : List Reminder) (v : Nat) (n : Nat), n + xs.length ≤ 1000 → law29_RemindersSorted_L2 kx a1 xs v (n : Int) = kx ((n + (xs.filter fun r => decide (r.Due ≤ now)).length : Nat) : Int)
  | [], v, n, _ => by simp [law29_RemindersSorted_L2]
  | x :: xs, v, n, h => by
    simp only [List.length_cons] at h
    rw [law29_RemindersSorted_L2, ew]
    by_cases hx : x.Due ≤ now
    · rw [if_pos hx, w64 (by omega) (by omega), show ((n : Int) + 1) = ((n + 1 : Nat) : Int) by omega, sorted_L2 kx a1 now ew xs (v + 1) (n + 1) (by omega)]
      simp [List.filter_cons, hx]; congr 1; omega
    · rw [if_neg hx, sorted_L2 kx a1 now ew xs (v + 1) n (by omega)]
      simp [List.filter_cons, hx]
theorem sorted_L3 (k : Option Bool) (a1 now : Int) (ew : IntKind.i64.wrap a1 = now) (d : List Reminder) (hl : d.length ≤ 1000) (hs : d.Pairwise ltD) (hd : ∀ x ∈ d, x.Due ≤ now) : ∀ (xs : List Reminder) (v : Nat), d.drop v = xs → law29_RemindersSorted_L3 k a1 d xs v () = k
  | [], v, _ => rfl
  | x :: xs, v, hv => by
    have hvl : v < d.length := by
      rcases Nat.lt_or_ge v d.length with h | h
      · exact h
      · rw [List.drop_eq_nil_of_le h] at hv; simp at hv
    rw [List.drop_eq_getElem_cons hvl] at hv
    simp only [List.cons.injEq] at hv
    have hx : d[v]? = some x := by rw [List.getElem?_eq_getElem hvl, hv.1]
    have hxd := hd x (List.mem_of_getElem? hx)
    have ih := sorted_L3 k a1 now ew d hl hs hd xs (v + 1) hv.2
    rw [law29_RemindersSorted_L3, ew, if_neg (by omega)]
    by_cases h0 : 0 < v
    · have hp : d[v - 1]? = some d[v - 1] := List.getElem?_eq_getElem (by omega)
      have hlt := List.pairwise_iff_getElem.1 hs (v - 1) v (by omega) hvl (by omega)
      rw [hv.1] at hlt
      rw [if_pos (by omega), w64 (by omega) (by omega), show ((v : Int) - 1) = ((v - 1 : Nat) : Int) by omega, gx_nat hp]
      rcases hlt with q | ⟨q, q'⟩
      · rw [if_neg (by omega), if_neg (by omega)]
        simp [law29_RemindersSorted_J1, ih]
      · rw [if_neg (by omega), if_pos q]
        simp [law29_RemindersSorted_J1, ih, q']
    · rw [if_neg (by omega)]
      simp [law29_RemindersSorted_J1, ih]
theorem sorted_J4 (N : Nat) (hN : 1001 ≤ N) {a1 : Int} (h0 : 0 ≤ a1) (h1 : a1 ≤ 65535) {t : List Reminder} (h : VR t) : law29_RemindersSorted_J4 N a1 t = some true := by
  have ew : IntKind.i64.wrap a1 = a1 := w64 (by omega) (by omega)
  have hlen := h.len
  have hf := List.length_filter_le (fun r : Reminder => decide (r.Due ≤ a1)) t
  have hdl := dueL_len t a1
  rw [law29_RemindersSorted_J4, ew, due_eq N hN h, Option.bind_some]
  have := sorted_L2 (law29_RemindersSorted_J3 N t (dueL t a1) a1) a1 a1 ew t 0 0 (by omega)
  rw [show ((0 : Int)) = ((0 : Nat) : Int) from rfl, this, Nat.zero_add, law29_RemindersSorted_J3, sorted_L3 _ a1 a1 ew (dueL t a1) (by omega) (dueL_sorted h a1) (fun x hx => (dueL_mem.1 hx).2) (dueL t a1) 0 rfl, law29_RemindersSorted_J2]
  cases t with
  | nil =>
    rw [next_nil, Option.bind_some]
    simp [dueL, srt]
  | cons x xs =>
    rw [next_cons N h, Option.bind_some, if_pos (by omega)]
    have hc : ((true : Bool) = decide ((0 : Int) < (((x :: xs).length : Nat) : Int))) := by simp
    rw [if_pos hc]
    by_cases hz : ((x :: xs).filter fun r => decide (r.Due ≤ a1)).length = 0
    · rw [if_pos (by omega)]
    · rw [if_neg (by omega)]
      cases hd : dueL (x :: xs) a1 with
      | nil => rw [hd] at hdl; simp only [List.length_nil] at hdl; omega
      | cons y ys =>
        have hg : (y :: ys)[0]? = some y := rfl
        rw [show ((0 : Int)) = ((0 : Nat) : Int) from rfl, gx_nat hg]
        have hy := dueL_mem.1 (show y ∈ dueL (x :: xs) a1 by rw [hd]; simp)
        have hsrt := dueL_sorted h a1
        rw [hd, List.pairwise_cons] at hsrt
        obtain ⟨m1, m2⟩ := mnD_le xs x.Due
        have hle : ∀ z ∈ x :: xs, mnD x.Due xs ≤ z.Due := by
          intro z hz
          rcases List.mem_cons.1 hz with rfl | hz
          · exact m1
          · exact m2 z hz
        obtain ⟨z, hz1, hz2⟩ : ∃ z ∈ x :: xs, z.Due = mnD x.Due xs := by
          rcases mnD_mem xs x.Due with q | ⟨z, q1, q2⟩
          · exact ⟨x, by simp, q.symm⟩
          · exact ⟨z, by simp [q1], q2⟩
        have hy1 := hle y hy.1
        have hzd : z ∈ dueL (x :: xs) a1 := dueL_mem.2 ⟨hz1, by omega⟩
        rw [hd] at hzd
        have : y.Due ≤ z.Due := by
          rcases List.mem_cons.1 hzd with rfl | hzd
          · omega
          · rcases hsrt.1 z hzd with q | ⟨q, _⟩ <;> omega
        have : y.Due = mnD x.Due xs := by omega
        simp [this]
theorem sorted_L1 (N : Nat) (hN : 1001 ≤ N) (kx : List Reminder → Option Bool) (hk : ∀ t, VR t → kx t = some true) : ∀ (xs : List Act29) (v : Nat) (t : List Reminder), (∀ x ∈ xs, U8A x) → VR t → law29_RemindersSorted_L1 kx N xs v t = some true
  | [], v, t, _, h => by rw [law29_RemindersSorted_L1]; exact hk t h
  | x :: xs, v, t, hw, h => by
    obtain ⟨_, ⟨b1, b2⟩, ⟨c1, c2⟩, ⟨d1, d2⟩, e1, e2⟩ := hw x (by simp)
    have hw' : ∀ y ∈ xs, U8A y := fun y hy => hw y (by simp [hy])
    have hsz := nm_size x.Name
    rw [law29_RemindersSorted_L1, name_eq N b1 b2, Option.bind_some, w64 (n := x.After) (by omega) (by omega), w64 (n := x.Period) (by omega) (by omega), w64 (n := x.N) (by omega) (by omega), w64 (n := x.Period + 1) (by omega) (by omega), w64 (n := x.N + 1) (by omega) (by omega)]
    rcases set_step N (by omega) h (k := nm x.Name) (now := x.After) (p := x.Period + 1) (n := x.N + 1) (by omega) (by omega) e1 (by omega) (by omega) (by omega) (by omega) (by omega) with ⟨q1, _⟩ | ⟨u, q1, q2, _⟩
    · rw [q1, Option.bind_some, if_neg (by decide)]; exact sorted_L1 N hN kx hk xs (v + 1) t hw' h
    · rw [q1, Option.bind_some, if_pos rfl]; exact sorted_L1 N hN kx hk xs (v + 1) u hw' q2
theorem plain_RemindersSorted (ls : List Act29) (now : Int) (hw : ∀ x ∈ ls, U8A x) (h0 : 0 ≤ now) (h1 : now ≤ 65535) : law29_RemindersSorted 4000 ls now = some true := by
  rw [law29_RemindersSorted, awake29]
  simp only [Option.bind_some, if_true]
  by_cases h2 : (40 : Int) < (ls.length : Int)
  · simp [h2]
  rw [if_neg h2]
  exact sorted_L1 4000 (by omega) _ (fun t h => sorted_J4 4000 (by omega) h0 h1 h) ls 0 [] hw vr_nil
end Go.Proofs.Ythdbndgfjldhpaa
