/- Plain facts on the models; no program in sight. -/
import Derived.Test.YthdbndgfjldhpaaM
set_option linter.unusedSimpArgs false
set_option linter.unusedVariables false
namespace Go.Proofs.Ythdbndgfjldhpaa
open Go Go.Proofs Go.Abs
theorem w64 {n : Int} (h1 : -9223372036854775808 ≤ n) (h2 : n ≤ 9223372036854775807) : IntKind.i64.wrap n = n := wrap64_in h1 h2
theorem bl_irrefl : ∀ x : List UInt8, Op.bytesLess x x = false
  | [] => rfl
  | a :: x => by simp [Op.bytesLess, bl_irrefl x]
theorem bl_trans : ∀ {x y z : List UInt8}, Op.bytesLess x y = true → Op.bytesLess y z = true → Op.bytesLess x z = true
  | _, [], _, h1, h2 => by simp [Op.bytesLess] at h1
  | _, _ :: _, [], h1, h2 => by simp [Op.bytesLess] at h2
  | [], _ :: _, _ :: _, h1, h2 => rfl
  | a :: x, b :: y, c :: z, h1, h2 => by
    simp only [Op.bytesLess, Bool.or_eq_true, decide_eq_true_eq, Bool.and_eq_true, beq_iff_eq] at h1 h2 ⊢
    rcases h1 with h1 | ⟨rfl, h1⟩
    · rcases h2 with h2 | ⟨rfl, h2⟩
      · exact .inl (UInt8.lt_trans h1 h2)
      · exact .inl h1
    · rcases h2 with h2 | ⟨rfl, h2⟩
      · exact .inl h2
      · exact .inr ⟨rfl, bl_trans h1 h2⟩
theorem bl_tri : ∀ x y : List UInt8, Op.bytesLess x y = true ∨ x = y ∨ Op.bytesLess y x = true
  | [], [] => .inr (.inl rfl)
  | [], _ :: _ => .inl rfl
  | _ :: _, [] => .inr (.inr rfl)
  | a :: x, b :: y => by
    simp only [Op.bytesLess, Bool.or_eq_true, decide_eq_true_eq, Bool.and_eq_true, beq_iff_eq]
    rcases UInt8.lt_or_lt_of_ne (a := a) (b := b) |> fun h => (Classical.em (a = b)).imp id h with rfl | h | h
    · rcases bl_tri x y with h | rfl | h
      · exact .inl (.inr ⟨rfl, h⟩)
      · exact .inr (.inl rfl)
      · exact .inr (.inr (.inr ⟨rfl, h⟩))
    · exact .inl (.inl h)
    · exact .inr (.inr (.inl h))
theorem sEq_iff {a b : ByteArray} : sEq a b = true ↔ a = b := by
  unfold sEq
  rw [beq_iff_eq, ByteArray.toList_eq, ByteArray.toList_eq]
  obtain ⟨⟨x⟩⟩ := a
  obtain ⟨⟨y⟩⟩ := b
  simp
theorem toList_inj {a b : ByteArray} (h : a.toList = b.toList) : a = b := sEq_iff.1 (by simpa [sEq] using h)
theorem sLt_irrefl (a : ByteArray) : sLt a a = false := bl_irrefl _
theorem sLt_trans {a b c : ByteArray} (h1 : sLt a b = true) (h2 : sLt b c = true) : sLt a c = true := bl_trans h1 h2
theorem sLt_tri (a b : ByteArray) : sLt a b = true ∨ a = b ∨ sLt b a = true := by
  rcases bl_tri a.toList b.toList with h | h | h
  · exact .inl h
  · exact .inr (.inl (toList_inj h))
  · exact .inr (.inr h)
def cmpS (a b : ByteArray) : Int := if sLt a b = true then -1 else if sEq a b = true then 0 else 1
theorem cmp_eq (N : Nat) (a b : ByteArray) : cmp_Compare_string N a b = some (cmpS a b) := by
  have n1 : sEq a a = true := sEq_iff.2 rfl
  have n2 : sEq b b = true := sEq_iff.2 rfl
  simp only [cmp_Compare_string, cmp_isNaN_string, n1, n2, Option.bind_some, cmpS]
  cases sLt a b <;> cases sEq a b <;> rfl
theorem cmpS_zero {a b : ByteArray} : cmpS a b = 0 ↔ a = b := by
  unfold cmpS
  constructor
  · intro h
    split at h
    · omega
    · split at h
      · rename_i e; exact sEq_iff.1 e
      · omega
  · rintro rfl
    simp [sLt_irrefl, sEq_iff.2 rfl]
theorem cmpS_neg {a b : ByteArray} : cmpS a b < 0 ↔ sLt a b = true := by
  unfold cmpS
  split
  · simp [*]
  · split <;> simp [*]
end Go.Proofs.Ythdbndgfjldhpaa

set_option linter.unusedSimpArgs false
set_option linter.unusedVariables false
namespace Go.Proofs.Ythdbndgfjldhpaa
open Go Go.Proofs Go.Abs
structure OkR (r : Reminder) : Prop where
  n1 : 1 ≤ r.Name.size
  n2 : r.Name.size ≤ 32
  d0 : 0 ≤ r.Due
  d1 : r.Due ≤ 1099511627776
  p0 : 1 ≤ r.Period
  p1 : r.Period ≤ 1099511627776
  l0 : 1 ≤ r.Left
  l1 : r.Left ≤ 1099511627776
  fit : (r.Left - 1) * r.Period ≤ 1099511627776 - r.Due
structure VR (t : List Reminder) : Prop where
  len : t.length ≤ 8
  ok : ∀ r ∈ t, OkR r
  so : t.Pairwise fun a b => sLt a.Name b.Name = true
theorem name_of (N : Nat) {s : ByteArray} (h1 : 1 ≤ s.size) (h2 : s.size ≤ 32) : reminders_validName N s = some true := by
  unfold reminders_validName
  rw [if_pos (by omega)]
  have : (s.size : Int) ≤ 32 := by omega
  simp [this]
theorem between_of (N : Nat) {n lo : Int} (h1 : lo ≤ n) (h2 : n ≤ 1099511627776) : reminders_between N n lo = some true := by
  unfold reminders_between
  rw [if_pos h1]
  simp [h2]
theorem fit_iff {l d p : Int} (hd : 0 ≤ d) (hd1 : d ≤ 1099511627776) (hp : 1 ≤ p) : l ≤ Int.tdiv (1099511627776 - d) p ↔ l * p ≤ 1099511627776 - d := by
  rw [Int.tdiv_eq_ediv_of_nonneg (by omega), Int.le_ediv_iff_mul_le (by omega)]
theorem tdiv_bd {d p : Int} (hd : 0 ≤ d) (hd1 : d ≤ 1099511627776) (hp : 1 ≤ p) : 0 ≤ Int.tdiv (1099511627776 - d) p ∧ Int.tdiv (1099511627776 - d) p ≤ 1099511627776 := by
  rw [Int.tdiv_eq_ediv_of_nonneg (by omega)]
  refine ⟨Int.ediv_nonneg (by omega) (by omega), ?_⟩
  have := Int.ediv_le_self p (a := 1099511627776 - d) (by omega)
  omega
theorem vrem (N : Nat) {r : Reminder} (h : OkR r) : reminders_validReminder N r = some true := by
  have a1 := h.d0; have a2 := h.d1; have a3 := h.p0; have a4 := h.p1; have a5 := h.l0; have a6 := h.l1; have a7 := h.fit
  obtain ⟨b1, b2⟩ := tdiv_bd a1 a2 a3
  simp only [reminders_validReminder, name_of N h.n1 h.n2, between_of N a1 a2, between_of N a3 a4, between_of N a5 a6, Option.bind_some, if_true]
  unfold dvx
  rw [if_neg (by omega), w64 (by omega) (by omega), w64 (n := 1099511627776 - r.Due) (by omega) (by omega), w64 (by omega) (by omega)]
  simp [(fit_iff a1 a2 a3).2 a7]
theorem valid_L1 (N : Nat) {t : List Reminder} (h : VR t) : ∀ (xs : List Reminder) (v : Nat), t.drop v = xs → reminders_Valid_L1 N t xs v () = some true
  | [], v, hd => rfl
  | x :: xs, v, hd => by
    have hl := h.len
    have hvl : v < t.length := by
      rcases Nat.lt_or_ge v t.length with h | h
      · exact h
      · rw [List.drop_eq_nil_of_le h] at hd; simp at hd
    rw [List.drop_eq_getElem_cons hvl] at hd
    simp only [List.cons.injEq] at hd
    have hx : t[v]? = some x := by rw [List.getElem?_eq_getElem hvl, hd.1]
    have ih := valid_L1 N h xs (v + 1) hd.2
    rw [reminders_Valid_L1, vrem N (h.ok x (List.mem_of_getElem? hx))]
    simp only [Option.bind_some, if_true]
    by_cases h0 : 0 < v
    · have hp : t[v - 1]? = some t[v - 1] := List.getElem?_eq_getElem (by omega)
      have hlt := List.pairwise_iff_getElem.1 h.so (v - 1) v (by omega) hvl (by omega)
      rw [hd.1] at hlt
      rw [if_pos (by omega), w64 (by omega) (by omega), show ((v : Int) - 1) = ((v - 1 : Nat) : Int) by omega, gx_nat hp]
      simp [hlt, reminders_Valid_J1, ih]
    · rw [if_neg (by omega)]
      simp [reminders_Valid_J1, ih]
theorem valid_of (N : Nat) {t : List Reminder} (h : VR t) : reminders_Valid N t = some true := by
  have hl := h.len
  unfold reminders_Valid
  rw [if_neg (by omega)]
  exact valid_L1 N h t 0 rfl
def ltN (k : ByteArray) (r : Reminder) : Bool := sLt r.Name k
def plc (t : List Reminder) (k : ByteArray) : Nat := (t.takeWhile (ltN k)).length
theorem plc_le (t : List Reminder) (k : ByteArray) : plc t k ≤ t.length := (List.takeWhile_sublist (ltN k)).length_le
theorem plc_lt : ∀ {t : List Reminder} {k : ByteArray}, (t.Pairwise fun a b => sLt a.Name b.Name = true) → ∀ {i : Nat} {r : Reminder}, t[i]? = some r → (sLt r.Name k = true ↔ i < plc t k)
  | [], k, hp, i, r, hr => by simp at hr
  | x :: xs, k, hp, i, r, hr => by
    rw [List.pairwise_cons] at hp
    by_cases h : sLt x.Name k = true
    · have e : plc (x :: xs) k = plc xs k + 1 := by simp [plc, List.takeWhile_cons, ltN, h]
      rw [e]
      cases i with
      | zero => simp only [List.getElem?_cons_zero, Option.some.injEq] at hr; subst hr; simp [h]
      | succ i =>
        rw [List.getElem?_cons_succ] at hr
        rw [plc_lt hp.2 hr]; omega
    · have e : plc (x :: xs) k = 0 := by simp [plc, List.takeWhile_cons, ltN, h]
      rw [e]
      constructor
      · intro hlt
        exfalso
        cases i with
        | zero => simp only [List.getElem?_cons_zero, Option.some.injEq] at hr; subst hr; exact h hlt
        | succ i =>
          rw [List.getElem?_cons_succ] at hr
          exact h (sLt_trans (hp.1 r (List.mem_of_getElem? hr)) hlt)
      · omega
def hasN (t : List Reminder) (k : ByteArray) : Bool := match t[plc t k]? with
  | some s => decide (s.Name = k)
  | none => false
theorem hasN_some {t : List Reminder} {k : ByteArray} (h : hasN t k = true) : ∃ s, t[plc t k]? = some s ∧ s.Name = k := by
  unfold hasN at h
  split at h
  · rename_i s hs; exact ⟨s, hs, by simpa using h⟩
  · cases h
theorem hasN_mem {t : List Reminder} (hp : t.Pairwise fun a b => sLt a.Name b.Name = true) {s : Reminder} (hs : s ∈ t) : t[plc t s.Name]? = some s ∧ hasN t s.Name = true := by
  obtain ⟨i, hi⟩ := List.mem_iff_getElem?.1 hs
  have h1 := plc_lt hp hi (k := s.Name)
  rw [sLt_irrefl] at h1
  have hle : plc t s.Name ≤ i := by
    rcases Nat.lt_or_ge i (plc t s.Name) with h | h
    · exact absurd (h1.2 h) (by simp)
    · exact h
  have hil := (List.getElem?_eq_some_iff.1 hi).1
  have hpl : plc t s.Name < t.length := by omega
  have e : plc t s.Name = i := by
    rcases Nat.lt_or_ge (plc t s.Name) i with h | h
    · exfalso
      have h2 := plc_lt hp (List.getElem?_eq_getElem hpl) (k := s.Name)
      have h3 := List.pairwise_iff_getElem.1 hp _ i hpl hil h
      have h4 : t[i] = s := by rw [List.getElem?_eq_getElem hil] at hi; exact Option.some.inj hi
      rw [h4] at h3
      have := h2.1 h3
      omega
    · omega
  rw [e]
  refine ⟨hi, ?_⟩
  unfold hasN
  rw [e, hi]
  simp
theorem mid_eq {i j : Nat} (h : i + j ≤ 1000000) : IntKind.i64.wrap (shrI .u64 (IntKind.u64.wrap (IntKind.i64.wrap ((i : Int) + (j : Int)))) 1) = (((i + j) / 2 : Nat) : Int) := by
  rw [w64 (n := (i : Int) + (j : Int)) (by omega) (by omega)]
  have e : IntKind.u64.wrap ((i : Int) + (j : Int)) = (i : Int) + (j : Int) := wrap_in ⟨by show (0 : Int) ≤ _; omega, by show _ ≤ (18446744073709551615 : Int); omega⟩
  rw [e]
  have e2 : shrI .u64 ((i : Int) + (j : Int)) 1 = (((i + j) / 2 : Nat) : Int) := by
    show ((i : Int) + (j : Int)).fdiv 2 = _
    rw [Int.fdiv_eq_ediv_of_nonneg _ (by omega)]
    omega
  rw [e2, w64 (by omega) (by omega)]
theorem find_1_eq (N : Nat) (r : Reminder) (k : ByteArray) : reminders_find_1 N r k = some (cmpS r.Name k) := by
  simp only [reminders_find_1, cmp_eq, Option.bind_some]
theorem bs_L1 {t : List Reminder} (ht : t.length ≤ 8) (hp : t.Pairwise fun a b => sLt a.Name b.Name = true) (N : Nat) (k : ByteArray) (kx : Int → Option (Int × Bool)) :
    ∀ (n i j : Nat), j < i + n → i ≤ plc t k → plc t k ≤ j → j ≤ t.length → slices_BinarySearchFunc_string_reminders_find_1_L1 t N k kx n ((i : Int), (j : Int)) = kx ((plc t k : Nat) : Int)
  | 0, i, j, h1, h2, h3, h4 => by omega
  | n + 1, i, j, h1, h2, h3, h4 => by
    rw [slices_BinarySearchFunc_string_reminders_find_1_L1]
    by_cases h : i < j
    · rw [if_pos (by omega), mid_eq (by omega)]
      have hm : (i + j) / 2 < t.length := by omega
      have hx : t[(i + j) / 2]? = some t[(i + j) / 2] := List.getElem?_eq_getElem hm
      have hc := plc_lt hp hx (k := k)
      rw [gx_nat hx, find_1_eq]
      simp only [Option.bind_some, cmpS_neg]
      by_cases hs : sLt t[(i + j) / 2].Name k = true
      · rw [if_pos hs, w64 (by omega) (by omega)]
        have := hc.1 hs
        exact bs_L1 ht hp N k kx n ((i + j) / 2 + 1) j (by omega) (by omega) h3 h4
      · rw [if_neg hs]
        have : ¬ (i + j) / 2 < plc t k := fun q => hs (hc.2 q)
        exact bs_L1 ht hp N k kx n i ((i + j) / 2) (by omega) h2 (by omega) (by omega)
    · rw [if_neg (by omega)]
      have : i = plc t k := by omega
      rw [this]
theorem find_eq (N : Nat) (hN : 9 ≤ N) {t : List Reminder} (h : VR t) (k : ByteArray) : reminders_find N t k = some (((plc t k : Nat) : Int), hasN t k) := by
  have hl := h.len
  have hp := plc_le t k
  have := bs_L1 hl h.so N k (slices_BinarySearchFunc_string_reminders_find_1_J1 t N k) N 0 t.length (by omega) (by omega) hp (by omega)
  simp only [reminders_find, slices_BinarySearchFunc_string_reminders_find_1]
  rw [show ((0 : Int)) = ((0 : Nat) : Int) from rfl, this]
  unfold slices_BinarySearchFunc_string_reminders_find_1_J1 hasN
  cases hq : t[plc t k]? with
  | none =>
    have := List.getElem?_eq_none_iff.1 hq
    rw [if_neg (by omega)]; rfl
  | some s =>
    have := (List.getElem?_eq_some_iff.1 hq).1
    rw [if_pos (by omega), gx_nat hq, find_1_eq]
    simp [cmpS_zero]
end Go.Proofs.Ythdbndgfjldhpaa

set_option linter.unusedSimpArgs false
set_option linter.unusedVariables false
namespace Go.Proofs.Ythdbndgfjldhpaa
open Go Go.Proofs Go.Abs
theorem setR {A B : List Reminder} {x y : Reminder} {n : Nat} (h : A.length = n) : (A ++ x :: B).set n y = A ++ y :: B := by
  subst h; simp
end Go.Proofs.Ythdbndgfjldhpaa

set_option linter.unusedSimpArgs false
set_option linter.unusedVariables false
namespace Go.Proofs.Ythdbndgfjldhpaa
open Go Go.Proofs Go.Abs
theorem clone_eq (N : Nat) {t : List Reminder} (h : t.length ≤ 8) : slices_Clone_Reminder N t = some t := by
  simp only [slices_Clone_Reminder]
  rw [apn_ok (by omega)]
def putR (t : List Reminder) (r : Reminder) : List Reminder := if hasN t r.Name = true then t.set (plc t r.Name) r else t.take (plc t r.Name) ++ [r] ++ t.drop (plc t r.Name)
theorem set_eq (N : Nat) (hN : 9 ≤ N) {t : List Reminder} (h : VR t) {now p n : Int} {nm : ByteArray} (hn0 : 0 ≤ now) (hn1 : now ≤ 1099511627776) (hs1 : 1 ≤ nm.size) (hs2 : nm.size ≤ 32) (hp0 : 1 ≤ p) (hp1 : p ≤ 1099511627776) (hk0 : 1 ≤ n) (hk1 : n ≤ 1099511627776) :
    reminders_Set N t now nm p n = some (if 1099511627776 - now < n * p then ([], 5) else if hasN t nm = false ∧ t.length = 8 then ([], 5) else (putR t ⟨nm, now + p, p, n⟩, 0)) := by
  have hl := h.len
  have hpl := plc_le t nm
  obtain ⟨b1, b2⟩ := tdiv_bd hn0 hn1 hp0
  have hf := fit_iff (l := n) hn0 hn1 hp0
  simp only [reminders_Set, valid_of N h, between_of N hn0 hn1, name_of N hs1 hs2, between_of N hp0 hp1, between_of N hk0 hk1, Option.bind_some, if_true, Bool.not_true, reminders_Set_J1, Bool.false_eq_true, if_false, reminders_Set_J4, find_eq N hN h]
  unfold dvx
  rw [if_neg (by omega), w64 (n := 1099511627776 - now) (by omega) (by omega), w64 (by omega) (by omega)]
  by_cases hc : 1099511627776 - now < n * p
  · have : Int.tdiv (1099511627776 - now) p < n := by
      rcases Int.lt_or_le (Int.tdiv (1099511627776 - now) p) n with q | q
      · exact q
      · have := hf.1 q; omega
    rw [if_pos this, if_pos hc]
  · have : ¬ Int.tdiv (1099511627776 - now) p < n := by
      have := hf.2 (by omega); omega
    rw [if_neg this, if_neg hc]
    have e : Int.tdiv (1099511627776 - now) p ≤ 1099511627776 := b2
    cases hh : hasN t nm
    · by_cases h8 : t.length = 8
      · have h8' : (t.length : Int) = 8 := by omega
        simp [h8, h8', reminders_Set_J2]
      · have h8' : ¬ (t.length : Int) = 8 := by omega
        simp only [Bool.false_eq_true, if_false, h8, h8', and_false, decide_false, reminders_Set_J2, reminders_Set_J3, clone_eq N hl, Option.bind_some, slices_Insert_Reminder, insM]
        rw [if_pos ⟨by omega, by omega, rfl, by omega⟩]
        simp [putR, hh]
        rw [w64 (by omega) (by omega)]
    · obtain ⟨s, hs, _⟩ := hasN_some hh
      simp only [if_true, Bool.true_eq_false, false_and, if_false, reminders_Set_J2, Bool.false_eq_true, reminders_Set_J3, clone_eq N hl, Option.bind_some, gx_nat hs, Int.toNat_natCast]
      simp [putR, hh]
      rw [w64 (by omega) (by omega)]
theorem cutAt {t : List Reminder} {i : Nat} {s : Reminder} (h : t[i]? = some s) : ∃ A B, t = A ++ s :: B ∧ A.length = i ∧ t.take i = A ∧ t.drop (i + 1) = B := by
  have hi := (List.getElem?_eq_some_iff.1 h).1
  have e : t[i] = s := by rw [List.getElem?_eq_getElem hi] at h; exact Option.some.inj h
  refine ⟨t.take i, t.drop (i + 1), ?_, by simp; omega, rfl, rfl⟩
  rw [← e, ← List.drop_eq_getElem_cons hi, List.take_append_drop]
theorem so_mid {A B : List Reminder} {s r : Reminder} (h : (A ++ s :: B).Pairwise fun a b => sLt a.Name b.Name = true) (e : r.Name = s.Name) : (A ++ r :: B).Pairwise fun a b => sLt a.Name b.Name = true := by
  simp only [List.pairwise_append, List.pairwise_cons, List.mem_cons, forall_eq_or_imp] at h ⊢
  refine ⟨h.1, ⟨fun b hb => by rw [e]; exact h.2.1.1 b hb, h.2.1.2⟩, fun a ha => ⟨by rw [e]; exact (h.2.2 a ha).1, (h.2.2 a ha).2⟩⟩
theorem so_ne {A B : List Reminder} {s y : Reminder} (h : (A ++ s :: B).Pairwise fun a b => sLt a.Name b.Name = true) (hy : y ∈ A ∨ y ∈ B) : y.Name ≠ s.Name := by
  simp only [List.pairwise_append, List.pairwise_cons, List.mem_cons, forall_eq_or_imp] at h
  intro e
  rcases hy with hy | hy
  · have := (h.2.2 y hy).1; rw [e, sLt_irrefl] at this; cases this
  · have := h.2.1.1 y hy; rw [e, sLt_irrefl] at this; cases this
theorem mem_mid {A B : List Reminder} {s y : Reminder} (h : (A ++ s :: B).Pairwise fun a b => sLt a.Name b.Name = true) : (y ∈ A ∨ y ∈ B) ↔ (y ∈ A ++ s :: B ∧ y.Name ≠ s.Name) := by
  constructor
  · intro hy
    refine ⟨?_, so_ne h hy⟩
    rcases hy with hy | hy <;> simp [hy]
  · rintro ⟨hy, hn⟩
    simp only [List.mem_append, List.mem_cons] at hy
    rcases hy with hy | rfl | hy
    · exact .inl hy
    · exact absurd rfl hn
    · exact .inr hy
theorem repl {t : List Reminder} (h : VR t) {i : Nat} {s r : Reminder} (hi : t[i]? = some s) (e : r.Name = s.Name) (hr : OkR r) : VR (t.set i r) ∧ ∀ y, y ∈ t.set i r ↔ y = r ∨ (y ∈ t ∧ y.Name ≠ s.Name) := by
  obtain ⟨A, B, rfl, hA, h1, h2⟩ := cutAt hi
  rw [setR hA]
  have hm : ∀ y, y ∈ A ++ r :: B ↔ y = r ∨ (y ∈ A ++ s :: B ∧ y.Name ≠ s.Name) := by
    intro y
    rw [← mem_mid h.so]
    simp only [List.mem_append, List.mem_cons]
    constructor
    · rintro (h | h | h) <;> simp [h]
    · rintro (h | h | h) <;> simp [h]
  refine ⟨⟨by have := h.len; simpa using this, fun y hy => ?_, so_mid h.so e⟩, hm⟩
  rcases (hm y).1 hy with rfl | ⟨hy, _⟩
  · exact hr
  · exact h.ok y hy
theorem delR {t : List Reminder} (h : VR t) {i : Nat} {s : Reminder} (hi : t[i]? = some s) : VR (t.take i ++ t.drop (i + 1)) ∧ ∀ y, y ∈ t.take i ++ t.drop (i + 1) ↔ (y ∈ t ∧ y.Name ≠ s.Name) := by
  obtain ⟨A, B, ht, hA, h1, h2⟩ := cutAt hi
  rw [h1, h2]
  subst ht
  refine ⟨⟨by have := h.len; simp at this ⊢; omega, fun y hy => ?_, ?_⟩, fun y => by rw [← mem_mid h.so, List.mem_append]⟩
  · exact h.ok y (by simp only [List.mem_append, List.mem_cons] at hy ⊢; rcases hy with hy | hy <;> simp [hy])
  · exact h.so.sublist (by simp)
theorem putR_ok {t : List Reminder} (h : VR t) {r : Reminder} (hr : OkR r) (h8 : ¬ (hasN t r.Name = false ∧ t.length = 8)) : VR (putR t r) ∧ (∀ y, y ∈ putR t r ↔ y = r ∨ (y ∈ t ∧ y.Name ≠ r.Name)) ∧ (putR t r).length ≤ t.length + 1 := by
  unfold putR
  cases hh : hasN t r.Name
  · simp only [Bool.false_eq_true, if_false]
    rw [hh] at h8
    have hl := h.len
    have h8' : ¬ t.length = 8 := fun e => h8 ⟨rfl, e⟩
    have hlt : ∀ a ∈ t.take (plc t r.Name), sLt a.Name r.Name = true := by
      intro a ha
      obtain ⟨i, hi⟩ := List.mem_iff_getElem?.1 ha
      have hi1 := (List.getElem?_eq_some_iff.1 hi).1
      simp only [List.length_take] at hi1
      rw [List.getElem?_take_of_lt (by omega)] at hi
      exact (plc_lt h.so hi).2 (by omega)
    have hgt : ∀ a ∈ t.drop (plc t r.Name), sLt r.Name a.Name = true := by
      intro a ha
      obtain ⟨i, hi⟩ := List.mem_iff_getElem?.1 ha
      rw [List.getElem?_drop] at hi
      have h1 := plc_lt h.so hi (k := r.Name)
      have h2 : ¬ sLt a.Name r.Name = true := fun q => by have := h1.1 q; omega
      rcases sLt_tri a.Name r.Name with q | q | q
      · exact absurd q h2
      · exfalso
        have := (hasN_mem h.so (List.mem_of_getElem? hi)).2
        rw [q, hh] at this; cases this
      · exact q
    have hne : ∀ y ∈ t, y.Name ≠ r.Name := by
      intro y hy e
      have := (hasN_mem h.so hy).2
      rw [e, hh] at this; cases this
    have hm : ∀ y, y ∈ t.take (plc t r.Name) ++ [r] ++ t.drop (plc t r.Name) ↔ y = r ∨ (y ∈ t ∧ y.Name ≠ r.Name) := by
      intro y
      have : y ∈ t ↔ y ∈ t.take (plc t r.Name) ∨ y ∈ t.drop (plc t r.Name) := by rw [← List.mem_append, List.take_append_drop]
      simp only [List.mem_append, List.mem_singleton]
      constructor
      · rintro ((q | q) | q)
        · have hy := this.2 (.inl q); exact .inr ⟨hy, hne y hy⟩
        · exact .inl q
        · have hy := this.2 (.inr q); exact .inr ⟨hy, hne y hy⟩
      · rintro (q | ⟨q, _⟩)
        · exact .inl (.inr q)
        · rcases this.1 q with q | q
          · exact .inl (.inl q)
          · exact .inr q
    have hp' := h.so
    rw [← List.take_append_drop (plc t r.Name) t, List.pairwise_append] at hp'
    have hpl := plc_le t r.Name
    refine ⟨⟨by simp; omega, fun y hy => ?_, ?_⟩, hm, by simp; omega⟩
    · rcases (hm y).1 hy with rfl | ⟨hy, _⟩
      · exact hr
      · exact h.ok y hy
    · rw [List.append_assoc, List.pairwise_append]
      refine ⟨hp'.1, ?_, fun a ha b hb => ?_⟩
      · rw [List.singleton_append, List.pairwise_cons]; exact ⟨hgt, hp'.2.1⟩
      · rw [List.singleton_append, List.mem_cons] at hb
        rcases hb with rfl | hb
        · exact hlt a ha
        · exact hp'.2.2 a ha b hb
  · obtain ⟨s, hs, he⟩ := hasN_some hh
    simp only [if_true]
    obtain ⟨a, b⟩ := repl h hs he.symm hr
    rw [he] at b
    exact ⟨a, b, by simp⟩
def nxt (x : Reminder) : Reminder := ⟨x.Name, x.Due + x.Period, x.Period, x.Left - 1⟩
theorem nxt_ok {x : Reminder} (h : OkR x) (h1 : x.Left ≠ 1) : OkR (nxt x) := by
  have a1 := h.d0; have a2 := h.d1; have a3 := h.p0; have a4 := h.p1; have a5 := h.l0; have a6 := h.l1; have a7 := h.fit
  have e : (x.Left - 1 - 1) * x.Period = (x.Left - 1) * x.Period - x.Period := by rw [Int.sub_mul (x.Left - 1) 1, Int.one_mul]
  have e2 : x.Period ≤ (x.Left - 1) * x.Period := by
    have := Int.mul_le_mul_of_nonneg_right (show (1 : Int) ≤ x.Left - 1 by omega) (show 0 ≤ x.Period by omega)
    rwa [Int.one_mul] at this
  refine ⟨h.n1, h.n2, ?_, ?_, a3, a4, ?_, ?_, ?_⟩ <;> simp only [nxt] <;> omega
def fireT (t : List Reminder) (x : Reminder) : List Reminder := if x.Left = 1 then t.take (plc t x.Name) ++ t.drop (plc t x.Name + 1) else t.set (plc t x.Name) (nxt x)
theorem fire_hit (N : Nat) (hN : 9 ≤ N) {t : List Reminder} (h : VR t) {x : Reminder} (hx : x ∈ t) : reminders_Fire N t x.Name x.Due = some (fireT t x, 0) := by
  have hl := h.len
  obtain ⟨h1, h2⟩ := hasN_mem h.so hx
  have ho := h.ok x hx
  have a1 := ho.d0; have a2 := ho.d1; have a3 := ho.p0; have a4 := ho.p1; have a5 := ho.l0; have a6 := ho.l1
  have hpl := (List.getElem?_eq_some_iff.1 h1).1
  simp only [reminders_Fire, valid_of N h, find_eq N hN h, Option.bind_some, if_true, h2, gx_nat h1, clone_eq N hl, Int.toNat_natCast]
  rw [w64 (n := ((plc t x.Name : Nat) : Int) + 1) (by omega) (by omega)]
  by_cases hL : x.Left = 1
  · rw [if_pos hL, slices_Delete_Reminder, delM, if_pos ⟨by omega, by omega, by omega⟩]
    simp only [Option.bind_some, fireT, hL, if_true, Int.toNat_natCast]
    rfl
  · rw [if_neg hL, w64 (by omega) (by omega), w64 (by omega) (by omega)]
    simp only [fireT, hL, if_false]
    rfl
theorem fire_miss (N : Nat) (hN : 9 ≤ N) {t : List Reminder} (h : VR t) {k : ByteArray} {d : Int} (hm : ∀ x ∈ t, x.Name = k → x.Due ≠ d) : ∃ c, reminders_Fire N t k d = some ([], c) ∧ c ≠ 0 := by
  simp only [reminders_Fire, valid_of N h, find_eq N hN h, Option.bind_some, if_true]
  cases hh : hasN t k
  · exact ⟨6, by simp, by decide⟩
  · obtain ⟨s, hs, he⟩ := hasN_some hh
    have := hm s (List.mem_of_getElem? hs) he
    simp only [if_true, gx_nat hs, this, if_false]
    exact ⟨8, rfl, by decide⟩
theorem fireT_ok {t : List Reminder} (h : VR t) {x : Reminder} (hx : x ∈ t) : VR (fireT t x) ∧ ∀ y, y ∈ fireT t x ↔ (x.Left ≠ 1 ∧ y = nxt x) ∨ (y ∈ t ∧ y.Name ≠ x.Name) := by
  obtain ⟨h1, h2⟩ := hasN_mem h.so hx
  unfold fireT
  by_cases hL : x.Left = 1
  · rw [if_pos hL]
    obtain ⟨a, b⟩ := delR h h1
    exact ⟨a, fun y => by rw [b y]; simp [hL]⟩
  · rw [if_neg hL]
    obtain ⟨a, b⟩ := repl h h1 (r := nxt x) rfl (nxt_ok (h.ok x hx) hL)
    exact ⟨a, fun y => by rw [b y]; simp [hL]⟩
theorem cancel_eq (N : Nat) (hN : 9 ≤ N) {t : List Reminder} (h : VR t) (k : ByteArray) : reminders_Cancel N t k = some (if hasN t k = true then (t.take (plc t k) ++ t.drop (plc t k + 1), 0) else ([], 6)) := by
  have hl := h.len
  simp only [reminders_Cancel, valid_of N h, find_eq N hN h, Option.bind_some, if_true, clone_eq N hl]
  cases hh : hasN t k
  · simp
  · obtain ⟨s, hs, he⟩ := hasN_some hh
    have hpl := (List.getElem?_eq_some_iff.1 hs).1
    simp only [if_true]
    rw [w64 (by omega) (by omega), slices_Delete_Reminder, delM, if_pos ⟨by omega, by omega, by omega⟩]
    simp only [Option.bind_some, Int.toNat_natCast]
    rfl
end Go.Proofs.Ythdbndgfjldhpaa

set_option linter.unusedSimpArgs false
set_option linter.unusedVariables false
namespace Go.Proofs.Ythdbndgfjldhpaa
open Go Go.Proofs Go.Abs
abbrev Act29 := actorgridlaw29_Act
def U8A (x : Act29) : Prop := (0 ≤ x.Kind ∧ x.Kind ≤ 255) ∧ (0 ≤ x.Name ∧ x.Name ≤ 255) ∧ (0 ≤ x.Period ∧ x.Period ≤ 255) ∧ (0 ≤ x.N ∧ x.N ≤ 255) ∧ (0 ≤ x.After ∧ x.After ≤ 255)
def nmK (k : Nat) : ByteArray := (ByteArray.mk #[97, 98, 99, 100, 101, 102, 103, 104, 105, 106]).extract k (k + 1)
def nm (w : Int) : ByteArray := nmK (w % 10).toNat
theorem nmK_ok : ∀ k, k < 10 → (nmK k).size = 1 ∧ nmK k ≠ ⟨#[122]⟩ := by decide
theorem nm_size (w : Int) : (nm w).size = 1 := (nmK_ok _ (by omega)).1
theorem name_eq (N : Nat) {w : Int} (h0 : 0 ≤ w) (h1 : w ≤ 255) : law29_name N w = some (nm w) := by
  have e1 : Int.tmod w 10 = w % 10 := Int.tmod_eq_emod_of_nonneg h0
  have z : (ByteArray.mk #[97, 98, 99, 100, 101, 102, 103, 104, 105, 106]).size = 10 := rfl
  unfold law29_name
  rw [e1, w64 (n := w % 10) (by omega) (by omega), w64 (by omega) (by omega)]
  unfold sls
  rw [if_pos ⟨by omega, by omega, by omega, by rw [z]; omega⟩]
  have : (w % 10 + 1).toNat = (w % 10).toNat + 1 := by omega
  rw [this]
  rfl
theorem after_eq {a now : Int} (h0 : 0 ≤ a) (h1 : a ≤ 255) (hn : 0 ≤ now) (hn2 : now ≤ 10000) : ∃ m, IntKind.i64.wrap (now + IntKind.i64.wrap (Int.tmod a 16)) = m ∧ now ≤ m ∧ m ≤ now + 15 := by
  have e1 : Int.tmod a 16 = a % 16 := Int.tmod_eq_emod_of_nonneg h0
  rw [e1, w64 (n := a % 16) (by omega) (by omega), w64 (by omega) (by omega)]
  exact ⟨_, rfl, by omega, by omega⟩
theorem small_eq {a m : Int} (h0 : 0 ≤ a) (h1 : a ≤ 255) (hm : 0 < m) (hm2 : m ≤ 255) : IntKind.i64.wrap (IntKind.i64.wrap (Int.tmod a m) + 1) = a % m + 1 ∧ 0 ≤ a % m ∧ a % m < m := by
  have e1 : Int.tmod a m = a % m := Int.tmod_eq_emod_of_nonneg h0
  have := Int.emod_nonneg a (show m ≠ 0 by omega)
  have := Int.emod_lt_of_pos a hm
  rw [e1, w64 (n := a % m) (by omega) (by omega), w64 (by omega) (by omega)]
  exact ⟨rfl, by omega, by omega⟩
theorem mul_bd {a b A B : Int} (ha : 0 ≤ a) (hA : a ≤ A) (hb : 0 ≤ b) (hB : b ≤ B) : 0 ≤ a * b ∧ a * b ≤ A * B := ⟨Int.mul_nonneg ha hb, Int.mul_le_mul hA hB hb (by omega)⟩
theorem newOk {k : ByteArray} {now p n : Int} (hs1 : 1 ≤ k.size) (hs2 : k.size ≤ 32) (h0 : 0 ≤ now) (h1 : now ≤ 20000) (p0 : 1 ≤ p) (p1 : p ≤ 256) (n0 : 1 ≤ n) (n1 : n ≤ 256) : OkR ⟨k, now + p, p, n⟩ ∧ ¬ 1099511627776 - now < n * p := by
  obtain ⟨a1, a2⟩ := mul_bd (a := n) (b := p) (by omega) n1 (by omega) p1
  obtain ⟨b1, b2⟩ := mul_bd (a := n - 1) (b := p) (A := 256) (by omega) (by omega) (by omega) p1
  exact ⟨⟨hs1, hs2, by simp only; omega, by simp only; omega, p0, by simp only; omega, n0, by simp only; omega, by simp only; omega⟩, by omega⟩
theorem set_step (N : Nat) (hN : 9 ≤ N) {t : List Reminder} (h : VR t) {k : ByteArray} {now p n : Int} (hs1 : 1 ≤ k.size) (hs2 : k.size ≤ 32) (h0 : 0 ≤ now) (h1 : now ≤ 20000) (p0 : 1 ≤ p) (p1 : p ≤ 256) (n0 : 1 ≤ n) (n1 : n ≤ 256) :
    (reminders_Set N t now k p n = some ([], 5) ∧ hasN t k = false ∧ t.length = 8) ∨ (∃ u, reminders_Set N t now k p n = some (u, 0) ∧ VR u ∧ (∀ y, y ∈ u ↔ y = ⟨k, now + p, p, n⟩ ∨ (y ∈ t ∧ y.Name ≠ k)) ∧ u.length ≤ t.length + 1) := by
  obtain ⟨a, b⟩ := newOk hs1 hs2 h0 h1 p0 p1 n0 n1
  rw [set_eq N hN h h0 (by omega) hs1 hs2 p0 (by omega) n0 (by omega), if_neg b]
  by_cases hc : hasN t k = false ∧ t.length = 8
  · rw [if_pos hc]; exact .inl ⟨rfl, hc⟩
  · rw [if_neg hc]
    obtain ⟨c, d, e⟩ := putR_ok h a hc
    exact .inr ⟨_, rfl, c, d, e⟩
theorem play_set (N : Nat) (hN : 9 ≤ N) {t : List Reminder} (h : VR t) {now : Int} (h0 : 0 ≤ now) (h1 : now ≤ 20000) {x : Act29} (hx : U8A x) (hk : Int.tmod x.Kind 4 < 3) :
    (∃ c u, law29_play N t now x = some (u, c) ∧ ((c = 5 ∧ t.length = 8) ∨ c = 6)) ∨ (∃ u, law29_play N t now x = some (u, 0) ∧ VR u ∧ ∀ y ∈ u, y.Name ≠ nm x.Name → y ∈ t) := by
  obtain ⟨⟨a1, a2⟩, ⟨b1, b2⟩, ⟨c1, c2⟩, ⟨d1, d2⟩, _⟩ := hx
  have ek : Int.tmod x.Kind 4 = x.Kind % 4 := Int.tmod_eq_emod_of_nonneg a1
  have hsz := nm_size x.Name
  obtain ⟨p1, p2, p3⟩ := small_eq c1 c2 (m := 20) (by omega) (by omega)
  obtain ⟨n1, n2, n3⟩ := small_eq d1 d2 (m := 6) (by omega) (by omega)
  have hset : (∃ c u, law29_play_J1 N x t now (law29_play_J2 N t now x) true = some (u, c) ∧ ((c = 5 ∧ t.length = 8) ∨ c = 6)) ∨ (∃ u, law29_play_J1 N x t now (law29_play_J2 N t now x) true = some (u, 0) ∧ VR u ∧ ∀ y ∈ u, y.Name ≠ nm x.Name → y ∈ t) := by
    simp only [law29_play_J1, if_true, name_eq N b1 b2, Option.bind_some, p1, n1]
    rcases set_step N hN h (k := nm x.Name) (now := now) (p := x.Period % 20 + 1) (n := x.N % 6 + 1) (by omega) (by omega) h0 h1 (by omega) (by omega) (by omega) (by omega) with ⟨q1, q2, q3⟩ | ⟨u, q1, q2, q3, q4⟩
    · rw [q1]; exact .inl ⟨5, [], rfl, .inl ⟨rfl, q3⟩⟩
    · rw [q1]
      refine .inr ⟨u, rfl, q2, fun y hy hne => ?_⟩
      rcases (q3 y).1 hy with rfl | ⟨hy, _⟩
      · exact absurd rfl hne
      · exact hy
  unfold law29_play
  rw [ek] at hk ⊢
  by_cases e0 : x.Kind % 4 = 0
  · rw [if_pos e0]; exact hset
  rw [if_neg e0]
  by_cases e1 : x.Kind % 4 = 1
  · simp only [e1, decide_true]; exact hset
  have e2 : x.Kind % 4 = 2 := by omega
  simp only [e1, decide_false, law29_play_J1, Bool.false_eq_true, if_false, ek, e2, if_true, name_eq N b1 b2, Option.bind_some, cancel_eq N hN h]
  cases hh : hasN t (nm x.Name)
  · exact .inl ⟨6, [], rfl, .inr rfl⟩
  · obtain ⟨s, hs, he⟩ := hasN_some hh
    obtain ⟨q1, q2⟩ := delR h hs
    exact .inr ⟨_, rfl, q1, fun y hy _ => ((q2 y).1 hy).1⟩
theorem awake29 : law29_awake 4000 = some true := by decide +kernel
theorem vr_nil : VR [] := ⟨by simp, by simp, List.Pairwise.nil⟩
end Go.Proofs.Ythdbndgfjldhpaa

set_option linter.unusedSimpArgs false
set_option linter.unusedVariables false
namespace Go.Proofs.Ythdbndgfjldhpaa
open Go Go.Proofs Go.Abs
abbrev Fg := actorgridlaw29_firing
structure InvO (t : List Reminder) (F : List Fg) : Prop where
  vr : VR t
  fd : ∀ f ∈ F, 0 ≤ f.life → ∀ x ∈ t, x.Name = f.name → f.due < x.Due
def kill (k : ByteArray) (f : Fg) : Fg := if f.name = k ∧ 0 ≤ f.life then ⟨f.name, f.due, -1⟩ else f
theorem once_L2 (N : Nat) (x : Act29) (hx : U8A x) (kx : List Fg → Option Bool) : ∀ (B A : List Fg) (n : Nat), B.length < n → A.length + B.length ≤ 1000 →
    law29_RemindersOnce_L2 N x kx n (A ++ B, (A.length : Int)) = kx (A ++ B.map (kill (nm x.Name)))
  | _, _, 0, h, _ => by omega
  | [], A, n + 1, h, hb => by
    rw [law29_RemindersOnce_L2, if_neg (by simp)]; simp
  | f :: B, A, n + 1, h, hb => by
    simp only [List.length_cons] at h hb
    have hg : (A ++ f :: B)[A.length]? = some f := by simp
    have ew : IntKind.i64.wrap ((A.length : Int) + 1) = (((A ++ [kill (nm x.Name) f]).length : Nat) : Int) := by rw [w64 (by omega) (by omega)]; simp
    have ih := once_L2 N x hx kx B (A ++ [kill (nm x.Name) f]) n (by omega) (by simp; omega)
    rw [law29_RemindersOnce_L2, if_pos (by simp; omega), gx_nat hg, name_eq N hx.2.1.1 hx.2.1.2, Option.bind_some]
    by_cases h1 : f.name = nm x.Name
    · rw [if_pos (sEq_iff.2 h1)]
      by_cases h2 : 0 ≤ f.life
      · have ek : kill (nm x.Name) f = ⟨f.name, f.due, -1⟩ := by unfold kill; rw [if_pos ⟨h1, h2⟩]
        simp only [h2, decide_true, law29_RemindersOnce_J1, if_true, gx_nat hg, Int.toNat_natCast]
        rw [ew]
        have es : (A ++ f :: B).set A.length (actorgridlaw29_firing.mk f.name f.due (-1)) = (A ++ [kill (nm x.Name) f]) ++ B := by rw [ek]; simp
        rw [es, ih]; simp
      · have ek : kill (nm x.Name) f = f := by unfold kill; rw [if_neg (fun q => h2 q.2)]
        simp only [h2, decide_false, law29_RemindersOnce_J1, Bool.false_eq_true, if_false]
        rw [ew]
        have es : (A ++ f :: B) = (A ++ [kill (nm x.Name) f]) ++ B := by rw [ek]; simp
        rw [es, ih]; simp
    · rw [if_neg (fun q => h1 (sEq_iff.1 q))]
      have ek : kill (nm x.Name) f = f := by unfold kill; rw [if_neg (fun q => h1 q.1)]
      simp only [law29_RemindersOnce_J1, Bool.false_eq_true, if_false]
      rw [ew]
      have es : (A ++ f :: B) = (A ++ [kill (nm x.Name) f]) ++ B := by rw [ek]; simp
      rw [es, ih]; simp
theorem inv_kill {t u : List Reminder} {F : List Fg} {k : ByteArray} (h : InvO t F) (hu : VR u) (hm : ∀ y ∈ u, y.Name ≠ k → y ∈ t) : InvO u (F.map (kill k)) := by
  refine ⟨hu, fun f hf hl y hy e => ?_⟩
  obtain ⟨g, hg, rfl⟩ := List.mem_map.1 hf
  unfold kill at hl e ⊢
  split at hl
  · simp at hl
  · rename_i hc
    rw [if_neg hc] at e ⊢
    have hne : y.Name ≠ k := fun q => hc ⟨by rw [← e, q], hl⟩
    exact h.fd g hg hl y (hm y hy hne) e
theorem once_L4 (k : Option Bool) (x : Reminder) : ∀ (xs : List Fg) (v : Nat), (∀ f ∈ xs, 0 ≤ f.life → x.Name = f.name → f.due < x.Due) → law29_RemindersOnce_L4 k x xs v () = k
  | [], v, _ => rfl
  | f :: xs, v, h => by
    have ih := once_L4 k x xs (v + 1) (fun g hg => h g (by simp [hg]))
    rw [law29_RemindersOnce_L4]
    by_cases h1 : 0 ≤ f.life
    · rw [if_pos h1]
      by_cases h2 : f.name = x.Name
      · have := h f (by simp) h1 h2.symm
        have hne : ¬ f.due = x.Due := by omega
        rw [if_pos (sEq_iff.2 h2)]
        simp [hne, law29_RemindersOnce_J5, ih]
      · rw [if_neg (fun q => h2 (sEq_iff.1 q))]
        simp [law29_RemindersOnce_J5, ih]
    · rw [if_neg h1]
      simp [law29_RemindersOnce_J5, ih]
abbrev RecO := List Reminder × List Fg × Int × Int → Option Bool
theorem once_L3 (N : Nat) (hN : 9 ≤ N) {t : List Reminder} {F : List Fg} (h : InvO t F) (rec : RecO) (v0 m : Int) (x : Act29) (em : IntKind.i64.wrap (v0 + IntKind.i64.wrap (Int.tmod x.After 16)) = m) (life : Int) (hF : F.length ≤ 1000)
    (hrec : ∀ u G, InvO u G → G.length ≤ F.length + 1 → rec (u, G, m, life) = some true) : ∀ (xs : List Reminder) (v : Nat), (∀ y ∈ xs, y ∈ t) → law29_RemindersOnce_L3 rec t F v0 x life N xs v () = some true
  | [], v, _ => by rw [law29_RemindersOnce_L3, em]; exact hrec t F h (by omega)
  | y :: xs, v, hm => by
    have ih := once_L3 N hN h rec v0 m x em life hF hrec xs (v + 1) (fun z hz => hm z (by simp [hz]))
    have hy := hm y (by simp)
    rw [law29_RemindersOnce_L3, fire_hit N hN h.vr hy, Option.bind_some, if_pos rfl, em]
    by_cases hd : m < y.Due
    · simp only [hd, decide_true, law29_RemindersOnce_J4, if_true, ih]
    · simp only [hd, decide_false, law29_RemindersOnce_J4, Bool.false_eq_true, if_false, law29_RemindersOnce_J7]
      rw [once_L4 _ y F 0 (fun f hf hl e => h.fd f hf hl y hy e), law29_RemindersOnce_J6, apx_ok (by simp only [List.length_cons, List.length_nil]; omega)]
      obtain ⟨hv, hmem⟩ := fireT_ok h.vr hy
      have ho := h.vr.ok y hy
      have hp := ho.p0
      obtain ⟨c, hc, hc0⟩ := fire_miss N hN hv (k := y.Name) (d := y.Due) (by
        intro z hz e
        rcases (hmem z).1 hz with ⟨_, rfl⟩ | ⟨_, hne⟩
        · simp only [nxt]; omega
        · exact absurd e hne)
      simp only [hc, Option.bind_some, hc0, if_false, em]
      refine hrec _ _ ⟨hv, fun f hf hl z hz e => ?_⟩ (by simp)
      rcases List.mem_append.1 hf with hf | hf
      · rcases (hmem z).1 hz with ⟨_, rfl⟩ | ⟨hz', hne⟩
        · have := h.fd f hf hl y hy e
          simp only [nxt]; omega
        · exact h.fd f hf hl z hz' e
      · obtain rfl := List.mem_singleton.1 hf
        rcases (hmem z).1 hz with ⟨_, rfl⟩ | ⟨hz', hne⟩
        · simp only [nxt]; omega
        · exact absurd e hne
theorem once_L1 (N : Nat) (hN : 1001 ≤ N) : ∀ (xs : List Act29) (v : Nat) (t : List Reminder) (F : List Fg) (now life : Int), (∀ x ∈ xs, U8A x) → InvO t F → 0 ≤ now → now + 15 * xs.length ≤ 10000 → 0 ≤ life → life + xs.length ≤ 1000 → F.length + xs.length ≤ 500 →
    law29_RemindersOnce_L1 N xs v (t, F, now, life) = some true
  | [], v, t, F, now, life, _, _, _, _, _, _, _ => rfl
  | x :: xs, v, t, F, now, life, hw, h, h0, h1, l0, l1, hF => by
    simp only [List.length_cons] at h1 l1 hF
    have hx := hw x (by simp)
    have hw' : ∀ y ∈ xs, U8A y := fun y hy => hw y (by simp [hy])
    obtain ⟨m, em, m1, m2⟩ := after_eq hx.2.2.2.2.1 hx.2.2.2.2.2 h0 (by omega)
    rw [law29_RemindersOnce_L1, em]
    by_cases hk : Int.tmod x.Kind 4 < 3
    · rw [if_pos hk]
      have el : IntKind.i64.wrap (life + 1) = life + 1 := w64 (by omega) (by omega)
      have J3 : ∀ u, VR u → (∀ y ∈ u, y.Name ≠ nm x.Name → y ∈ t) → law29_RemindersOnce_J3 N x (law29_RemindersOnce_L1 N xs (v + 1)) now life F u = some true := by
        intro u hu hm
        rw [law29_RemindersOnce_J3]
        have := once_L2 N x hx (law29_RemindersOnce_J2 (law29_RemindersOnce_L1 N xs (v + 1)) u now x life) F [] N (by omega) (by simp; omega)
        simp only [List.nil_append, List.length_nil] at this
        rw [show ((0 : Int)) = ((0 : Nat) : Int) from rfl, this, law29_RemindersOnce_J2, em, el]
        exact once_L1 N hN xs (v + 1) u _ m (life + 1) hw' (inv_kill h hu hm) (by omega) (by omega) (by omega) (by omega) (by simp; omega)
      rcases play_set N (by omega) h.vr (now := m) (by omega) (by omega) hx hk with ⟨c, u, q1, q2⟩ | ⟨u, q1, q2, q3⟩
      · have hc : ¬ c = 0 := by rcases q2 with ⟨rfl, _⟩ | rfl <;> decide
        rw [q1, Option.bind_some, if_neg hc]
        exact J3 t h.vr (fun y hy _ => hy)
      · rw [q1, Option.bind_some, if_pos rfl]
        exact J3 u q2 q3
    · rw [if_neg hk]
      exact once_L3 N (by omega) h _ now m x em life (by omega) (fun u G hu hG => once_L1 N hN xs (v + 1) u G m life hw' hu (by omega) (by omega) l0 (by omega) (by omega)) t 0 (fun y hy => hy)
theorem plain_RemindersOnce (ls : List Act29) (hw : ∀ x ∈ ls, U8A x) : law29_RemindersOnce 4000 ls = some true := by
  rw [law29_RemindersOnce, awake29]
  simp only [Option.bind_some, if_true]
  by_cases h2 : (100 : Int) < (ls.length : Int)
  · simp [h2]
  rw [if_neg h2]
  exact once_L1 4000 (by omega) ls 0 [] [] 0 0 hw ⟨vr_nil, by simp⟩ (by omega) (by omega) (by omega) (by omega) (by simp; omega)
end Go.Proofs.Ythdbndgfjldhpaa
