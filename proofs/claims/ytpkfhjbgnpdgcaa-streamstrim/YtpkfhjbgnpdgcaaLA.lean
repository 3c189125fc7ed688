/- Plain facts on the models; no program in sight. -/
import Derived.Test.YtpkfhjbgnpdgcaaM
set_option linter.unusedSimpArgs false
set_option linter.unusedVariables false
namespace Go.Proofs.Ytpkfhjbgnpdgcaa
open Go Go.Proofs Go.Abs
theorem w64 {n : Int} (h1 : -9223372036854775808 ≤ n) (h2 : n ≤ 9223372036854775807) : IntKind.i64.wrap n = n := wrap64_in h1 h2
theorem bl_irrefl : ∀ x : List UInt8, Op.bytesLess x x = false
  | [] => rfl
  | a :: x => by simp [Op.bytesLess, bl_irrefl x]
theorem bl_trans : ∀ {x y z : List UInt8}, Op.bytesLess x y = true → Op.bytesLess y z = true → Op.bytesLess x z = true
  | _, [], _, h1, h2 => by simp [Op.bytesLess] at h1
  | _, _ :: _, [], h1, h2 => by simp [Op.bytesLess] at h2
  | [], _ :: _, _ :: _, h1, h2 => rfl
  | a :: x, b :: y, c :: z, h1, h2 => by
    simp only [Op.bytesLess, Bool.or_eq_true, decide_eq_true_eq, Bool.and_eq_true, beq_iff_eq] at h1 h2 ⊢
    rcases h1 with h1 | ⟨rfl, h1⟩
    · rcases h2 with h2 | ⟨rfl, h2⟩
      · exact .inl (UInt8.lt_trans h1 h2)
      · exact .inl h1
    · rcases h2 with h2 | ⟨rfl, h2⟩
      · exact .inl h2
      · exact .inr ⟨rfl, bl_trans h1 h2⟩
theorem bl_tri : ∀ x y : List UInt8, Op.bytesLess x y = true ∨ x = y ∨ Op.bytesLess y x = true
  | [], [] => .inr (.inl rfl)
  | [], _ :: _ => .inl rfl
  | _ :: _, [] => .inr (.inr rfl)
  | a :: x, b :: y => by
    simp only [Op.bytesLess, Bool.or_eq_true, decide_eq_true_eq, Bool.and_eq_true, beq_iff_eq]
    rcases UInt8.lt_or_lt_of_ne (a := a) (b := b) |> fun h => (Classical.em (a = b)).imp id h with rfl | h | h
    · rcases bl_tri x y with h | rfl | h
      · exact .inl (.inr ⟨rfl, h⟩)
      · exact .inr (.inl rfl)
      · exact .inr (.inr (.inr ⟨rfl, h⟩))
    · exact .inl (.inl h)
    · exact .inr (.inr (.inl h))
theorem sEq_iff {a b : ByteArray} : sEq a b = true ↔ a = b := by
  unfold sEq
  rw [beq_iff_eq, ByteArray.toList_eq, ByteArray.toList_eq]
  obtain ⟨⟨x⟩⟩ := a
  obtain ⟨⟨y⟩⟩ := b
  simp
theorem toList_inj {a b : ByteArray} (h : a.toList = b.toList) : a = b := sEq_iff.1 (by simpa [sEq] using h)
theorem sLt_irrefl (a : ByteArray) : sLt a a = false := bl_irrefl _
theorem sLt_trans {a b c : ByteArray} (h1 : sLt a b = true) (h2 : sLt b c = true) : sLt a c = true := bl_trans h1 h2
theorem sLt_tri (a b : ByteArray) : sLt a b = true ∨ a = b ∨ sLt b a = true := by
  rcases bl_tri a.toList b.toList with h | h | h
  · exact .inl h
  · exact .inr (.inl (toList_inj h))
  · exact .inr (.inr h)
def cmpS (a b : ByteArray) : Int := if sLt a b = true then -1 else if sEq a b = true then 0 else 1
theorem cmp_eq (N : Nat) (a b : ByteArray) : cmp_Compare_string N a b = some (cmpS a b) := by
  have n1 : sEq a a = true := sEq_iff.2 rfl
  have n2 : sEq b b = true := sEq_iff.2 rfl
  simp only [cmp_Compare_string, cmp_isNaN_string, n1, n2, Option.bind_some, cmpS]
  cases sLt a b <;> cases sEq a b <;> rfl
theorem cmpS_zero {a b : ByteArray} : cmpS a b = 0 ↔ a = b := by
  unfold cmpS
  constructor
  · intro h
    split at h
    · omega
    · split at h
      · rename_i e; exact sEq_iff.1 e
      · omega
  · rintro rfl
    simp [sLt_irrefl, sEq_iff.2 rfl]
theorem cmpS_neg {a b : ByteArray} : cmpS a b < 0 ↔ sLt a b = true := by
  unfold cmpS
  split
  · simp [*]
  · split <;> simp [*]
end Go.Proofs.Ytpkfhjbgnpdgcaa

set_option linter.unusedSimpArgs false
set_option linter.unusedVariables false
namespace Go.Proofs.Ytpkfhjbgnpdgcaa
open Go Go.Proofs Go.Abs
abbrev K3 := ByteArray × ByteArray × ByteArray
def keyS (s : Sub) : K3 := (s.Target.Type_, s.Target.Key, s.Method)
def keyR (t : Ref) (m : ByteArray) : K3 := (t.Type_, t.Key, m)
def cmpK (x y : K3) : Int := if cmpS x.1 y.1 = 0 then (if cmpS x.2.1 y.2.1 = 0 then cmpS x.2.2 y.2.2 else cmpS x.2.1 y.2.1) else cmpS x.1 y.1
theorem compare_eq (N : Nat) (s : Sub) (t : Ref) (m : ByteArray) : streams_compare N s t m = some (cmpK (keyS s) (keyR t m)) := by
  simp only [streams_compare, cmp_eq, Option.bind_some, cmp_Or_int, cmp_Or_int_L1, cmpK, keyS, keyR]
  by_cases h1 : cmpS s.Target.Type_ t.Type_ = 0
  · by_cases h2 : cmpS s.Target.Key t.Key = 0
    · by_cases h3 : cmpS s.Method m = 0 <;> simp [h1, h2, h3]
    · simp [h1, h2]
  · simp [h1]
theorem cmpK_zero {x y : K3} : cmpK x y = 0 ↔ x = y := by
  obtain ⟨a, b, c⟩ := x
  obtain ⟨a', b', c'⟩ := y
  simp only [cmpK, Prod.mk.injEq]
  by_cases h1 : cmpS a a' = 0
  · by_cases h2 : cmpS b b' = 0
    · simp only [h1, h2, if_true, cmpS_zero]; simp [cmpS_zero.1 h1, cmpS_zero.1 h2]
    · simp only [h1, h2, if_true, if_false, false_iff]; intro h; exact h2 (cmpS_zero.2 h.2.1)
  · simp only [h1, if_false, false_iff]; intro h; exact h1 (cmpS_zero.2 h.1)
theorem cmpK_neg {x y : K3} : cmpK x y < 0 ↔ sLt x.1 y.1 = true ∨ (x.1 = y.1 ∧ (sLt x.2.1 y.2.1 = true ∨ (x.2.1 = y.2.1 ∧ sLt x.2.2 y.2.2 = true))) := by
  obtain ⟨a, b, c⟩ := x
  obtain ⟨a', b', c'⟩ := y
  simp only [cmpK]
  by_cases h1 : cmpS a a' = 0
  · obtain rfl := cmpS_zero.1 h1
    by_cases h2 : cmpS b b' = 0
    · obtain rfl := cmpS_zero.1 h2
      simp [h1, h2, cmpS_neg, sLt_irrefl]
    · have : b ≠ b' := fun e => h2 (cmpS_zero.2 e)
      simp [h1, h2, cmpS_neg, sLt_irrefl, this]
  · have : a ≠ a' := fun e => h1 (cmpS_zero.2 e)
    simp [h1, cmpS_neg, this]
theorem cmpK_trans {x y z : K3} (h1 : cmpK x y < 0) (h2 : cmpK y z < 0) : cmpK x z < 0 := by
  obtain ⟨a, b, c⟩ := x
  obtain ⟨a', b', c'⟩ := y
  obtain ⟨a2, b2, c2⟩ := z
  rw [cmpK_neg] at *
  simp only at *
  rcases h1 with h1 | ⟨rfl, h1⟩
  · rcases h2 with h2 | ⟨rfl, h2⟩
    · exact .inl (sLt_trans h1 h2)
    · exact .inl h1
  · rcases h2 with h2 | ⟨rfl, h2⟩
    · exact .inl h2
    · refine .inr ⟨rfl, ?_⟩
      rcases h1 with h1 | ⟨rfl, h1⟩
      · rcases h2 with h2 | ⟨rfl, h2⟩
        · exact .inl (sLt_trans h1 h2)
        · exact .inl h1
      · rcases h2 with h2 | ⟨rfl, h2⟩
        · exact .inl h2
        · exact .inr ⟨rfl, sLt_trans h1 h2⟩
theorem cmpK_irrefl (x : K3) : ¬ cmpK x x < 0 := by have := cmpK_zero (x := x) (y := x); simp at this; omega
theorem cmpK_tri (x y : K3) : cmpK x y < 0 ∨ x = y ∨ cmpK y x < 0 := by
  obtain ⟨a, b, c⟩ := x
  obtain ⟨a', b', c'⟩ := y
  rw [cmpK_neg, cmpK_neg]
  simp only
  rcases sLt_tri a a' with h | rfl | h
  · exact .inl (.inl h)
  · rcases sLt_tri b b' with h | rfl | h
    · exact .inl (.inr ⟨rfl, .inl h⟩)
    · rcases sLt_tri c c' with h | rfl | h
      · exact .inl (.inr ⟨rfl, .inr ⟨rfl, h⟩⟩)
      · exact .inr (.inl rfl)
      · exact .inr (.inr (.inr ⟨rfl, .inr ⟨rfl, h⟩⟩))
    · exact .inr (.inr (.inr ⟨rfl, .inl h⟩))
  · exact .inr (.inr (.inl h))
end Go.Proofs.Ytpkfhjbgnpdgcaa

set_option linter.unusedSimpArgs false
set_option linter.unusedVariables false
namespace Go.Proofs.Ytpkfhjbgnpdgcaa
open Go Go.Proofs Go.Abs
def nameB (s : ByteArray) : Bool := decide (1 ≤ s.size) && decide (s.size ≤ 32)
theorem validName_eq (N : Nat) (s : ByteArray) : streams_validName N s = some (nameB s) := by
  unfold streams_validName nameB
  by_cases h : (1 : Int) ≤ (s.size : Int)
  · have h' : 1 ≤ s.size := by omega
    simp [h, h']
    by_cases h2 : s.size ≤ 32
    · have : (s.size : Int) ≤ 32 := by omega
      simp [h2, this]
    · have : ¬ (s.size : Int) ≤ 32 := by omega
      simp [h2, this]
  · have h' : ¬ 1 ≤ s.size := by omega
    simp [h, h']
def keyB (t : Ref) (m : ByteArray) : Bool := nameB t.Type_ && nameB m && decide (t.Key.size ≤ 32)
theorem validKey_eq (N : Nat) (t : Ref) (m : ByteArray) : streams_validKey N t m = some (keyB t m) := by
  have e : decide ((t.Key.size : Int) ≤ 32) = decide (t.Key.size ≤ 32) := by
    by_cases h : t.Key.size ≤ 32
    · have : (t.Key.size : Int) ≤ 32 := by omega
      simp [h, this]
    · have : ¬ (t.Key.size : Int) ≤ 32 := by omega
      simp [h, this]
  simp only [streams_validKey, validName_eq, Option.bind_some, keyB, e]
  cases nameB t.Type_ <;> cases nameB m <;> simp
def aftB (p : Option K3) (s : Sub) : Bool :=
  match p with
  | none => true
  | some k => decide (cmpK k (keyS s) < 0)
def subsB (f e : Int) : Option K3 → List Sub → Bool
  | _, [] => true
  | p, s :: l => keyB s.Target s.Method && decide (f ≤ s.Cursor) && decide (s.Cursor ≤ e) && aftB p s && subsB f e (some (keyS s)) l
theorem valid_L1 (N : Nat) (t : Topic) (hl : t.Subs.length ≤ 8) (hw : IntKind.i64.wrap (t.First + (t.Events.length : Int)) = t.First + (t.Events.length : Int)) : ∀ (xs : List Sub) (v : Nat) (p : Option K3), t.Subs.drop v = xs → v ≤ t.Subs.length → (∀ k, p = some k → 0 < v ∧ ∃ s, t.Subs[v - 1]? = some s ∧ keyS s = k) → (p = none → v = 0) →
    streams_Valid_L1 N t xs v () = some (subsB t.First (t.First + t.Events.length) p xs)
  | [], v, p, hd, hv, hp, hn => by simp [streams_Valid_L1, subsB]
  | x :: xs, v, p, hd, hv, hp, hn => by
    have hvl : v < t.Subs.length := by
      rcases Nat.lt_or_ge v t.Subs.length with h | h
      · exact h
      · rw [List.drop_eq_nil_of_le h] at hd; simp at hd
    have hd' : t.Subs.drop (v + 1) = xs ∧ t.Subs[v]? = some x := by
      rw [List.drop_eq_getElem_cons hvl] at hd
      simp only [List.cons.injEq] at hd
      exact ⟨hd.2, by rw [List.getElem?_eq_getElem hvl, hd.1]⟩
    have ih := valid_L1 N t hl hw xs (v + 1) (some (keyS x)) hd'.1 (by omega) (by rintro k hk; cases hk; exact ⟨by omega, x, by simpa using hd'.2, rfl⟩) (by simp)
    have hJ4 : streams_Valid_J4 v t N x (streams_Valid_L1 N t xs (v + 1)) = some (aftB p x && subsB t.First (t.First + t.Events.length) (some (keyS x)) xs) := by
      unfold streams_Valid_J4
      cases p with
      | none =>
        have := hn rfl
        subst this
        simp [streams_Valid_J3, ih, aftB]
      | some k =>
        obtain ⟨h0, s, hs, rfl⟩ := hp k rfl
        rw [if_pos (by omega), w64 (by omega) (by omega), show ((v : Int) - 1) = ((v - 1 : Nat) : Int) by omega, gx_nat hs, compare_eq]
        simp only [Option.bind_some, streams_Valid_J3]
        by_cases hc : cmpK (keyS s) (keyS x) < 0
        · have : ¬ 0 ≤ cmpK (keyS s) (keyR x.Target x.Method) := by have e : keyR x.Target x.Method = keyS x := rfl; rw [e]; omega
          simp [hc, this, ih, aftB]
        · have : 0 ≤ cmpK (keyS s) (keyR x.Target x.Method) := by have e : keyR x.Target x.Method = keyS x := rfl; rw [e]; omega
          simp [hc, this, aftB]
    simp only [streams_Valid_L1, validKey_eq, Option.bind_some, hw, subsB]
    cases keyB x.Target x.Method
    · simp [streams_Valid_J2]
    · by_cases h1 : x.Cursor < t.First
      · have : ¬ t.First ≤ x.Cursor := by omega
        simp [h1, this, streams_Valid_J2]
      · have h1' : t.First ≤ x.Cursor := by omega
        by_cases h2 : t.First + t.Events.length < x.Cursor
        · have : ¬ x.Cursor ≤ t.First + t.Events.length := by omega
          simp [h1, h1', h2, this, streams_Valid_J2]
        · have h2' : x.Cursor ≤ t.First + t.Events.length := by omega
          simp [h1, h1', h2, h2', streams_Valid_J2, hJ4]
def VB (t : Topic) : Bool := nameB t.Name && decide (0 ≤ t.First) && decide (t.Events.length ≤ 64) && decide (t.First ≤ 1099511627776 - t.Events.length) && decide (t.Subs.length ≤ 8) && subsB t.First (t.First + t.Events.length) none t.Subs
theorem valid_eq (N : Nat) (t : Topic) : streams_Valid N t = some (VB t) := by
  unfold streams_Valid VB
  simp only [validName_eq, Option.bind_some]
  cases nameB t.Name
  · simp [streams_Valid_J1]
  · by_cases h1 : t.First < 0
    · have : ¬ 0 ≤ t.First := by omega
      simp [h1, this, streams_Valid_J1]
    · have h1' : 0 ≤ t.First := by omega
      by_cases h2 : (64 : Int) < (t.Events.length : Int)
      · have : ¬ t.Events.length ≤ 64 := by omega
        simp [h1, h1', h2, this, streams_Valid_J1]
      · have h2' : t.Events.length ≤ 64 := by omega
        rw [w64 (by omega) (by omega)]
        by_cases h3 : 1099511627776 - (t.Events.length : Int) < t.First
        · have : ¬ t.First ≤ 1099511627776 - (t.Events.length : Int) := by omega
          simp [h1, h1', h2, h2', h3, this, streams_Valid_J1]
        · have h3' : t.First ≤ 1099511627776 - (t.Events.length : Int) := by omega
          by_cases h4 : (8 : Int) < (t.Subs.length : Int)
          · have : ¬ t.Subs.length ≤ 8 := by omega
            simp [h1, h1', h2, h2', h3, h3', h4, this, streams_Valid_J1]
          · have h4' : t.Subs.length ≤ 8 := by omega
            have := valid_L1 N t h4' (w64 (by omega) (by omega)) t.Subs 0 none rfl (by omega) (by simp) (by simp)
            simp [h1, h1', h2, h2', h3, h3', h4, h4', streams_Valid_J1, streams_Valid_J5, this]
end Go.Proofs.Ytpkfhjbgnpdgcaa

set_option linter.unusedSimpArgs false
set_option linter.unusedVariables false
namespace Go.Proofs.Ytpkfhjbgnpdgcaa
open Go Go.Proofs Go.Abs
theorem subsB_iff (f e : Int) : ∀ (l : List Sub) (p : Option K3), subsB f e p l = true ↔ (∀ s ∈ l, keyB s.Target s.Method = true ∧ f ≤ s.Cursor ∧ s.Cursor ≤ e) ∧ (l.Pairwise fun a b => cmpK (keyS a) (keyS b) < 0) ∧ ∀ k, p = some k → ∀ s ∈ l, cmpK k (keyS s) < 0
  | [], p => by simp [subsB]
  | x :: xs, p => by
    have ih := subsB_iff f e xs (some (keyS x))
    simp only [subsB, Bool.and_eq_true, decide_eq_true_eq, ih, List.pairwise_cons, List.mem_cons, forall_eq_or_imp]
    constructor
    · rintro ⟨⟨⟨⟨a1, a2⟩, a3⟩, a4⟩, b1, b2, b3⟩
      refine ⟨⟨⟨a1, a2, a3⟩, b1⟩, ⟨b3 _ rfl, b2⟩, ?_⟩
      rintro k rfl
      simp only [aftB, decide_eq_true_eq] at a4
      exact ⟨a4, fun s hs => cmpK_trans a4 (b3 _ rfl s hs)⟩
    · rintro ⟨⟨⟨a1, a2, a3⟩, b1⟩, ⟨c1, c2⟩, d⟩
      refine ⟨⟨⟨⟨a1, a2⟩, a3⟩, ?_⟩, b1, c2, ?_⟩
      · cases p with
        | none => rfl
        | some k => simp only [aftB, decide_eq_true_eq]; exact (d k rfl).1
      · rintro k hk; cases hk; exact c1
structure VT (t : Topic) : Prop where
  name : nameB t.Name = true
  f0 : 0 ≤ t.First
  ev : t.Events.length ≤ 64
  f1 : t.First ≤ 1099511627776 - t.Events.length
  sl : t.Subs.length ≤ 8
  sk : ∀ s ∈ t.Subs, keyB s.Target s.Method = true ∧ t.First ≤ s.Cursor ∧ s.Cursor ≤ t.First + t.Events.length
  so : t.Subs.Pairwise fun a b => cmpK (keyS a) (keyS b) < 0
theorem VB_iff (t : Topic) : VB t = true ↔ VT t := by
  simp only [VB, Bool.and_eq_true, decide_eq_true_eq, subsB_iff]
  constructor
  · rintro ⟨⟨⟨⟨⟨a, b⟩, c⟩, d⟩, e⟩, f, g, _⟩; exact ⟨a, b, c, d, e, f, g⟩
  · rintro ⟨a, b, c, d, e, f, g⟩; exact ⟨⟨⟨⟨⟨a, b⟩, c⟩, d⟩, e⟩, f, g, by simp⟩
theorem end_eq (N : Nat) {t : Topic} (h : VT t) : streams_End N t = some (t.First + t.Events.length) := by
  have := h.f1; have := h.f0; have := h.ev
  simp only [streams_End, valid_eq, (VB_iff t).2 h, Option.bind_some, if_true]
  rw [w64 (by omega) (by omega)]
theorem clone_eq (N : Nat) {t : Topic} (h : VT t) : streams_clone N t = some t := by
  have := h.ev; have := h.sl
  simp only [streams_clone, slices_Clone_int, slices_Clone_Sub]
  rw [apn_ok (by omega), apn_ok (by omega)]
  rfl
end Go.Proofs.Ytpkfhjbgnpdgcaa

set_option linter.unusedSimpArgs false
set_option linter.unusedVariables false
namespace Go.Proofs.Ytpkfhjbgnpdgcaa
open Go Go.Proofs Go.Abs
def ltK (k : K3) (s : Sub) : Bool := decide (cmpK (keyS s) k < 0)
def plc (l : List Sub) (k : K3) : Nat := (l.takeWhile (ltK k)).length
theorem find_L1 (kx : Int → Option (Int × Bool)) (N : Nat) (a1 : Ref) (a2 : ByteArray) : ∀ (xs : List Sub) (v : Nat), streams_find_L1 kx N a1 a2 xs v () = kx ((v + plc xs (keyR a1 a2) : Nat) : Int)
  | [], v => by simp [streams_find_L1, plc]
  | x :: xs, v => by
    rw [streams_find_L1, compare_eq]
    simp only [Option.bind_some]
    by_cases h : cmpK (keyS x) (keyR a1 a2) < 0
    · have : ltK (keyR a1 a2) x = true := by simp [ltK, h]
      simp only [h, if_true, find_L1 kx N a1 a2 xs (v + 1), plc, List.takeWhile_cons, this, List.length_cons]
      congr 2
      omega
    · have : ltK (keyR a1 a2) x = false := by simp [ltK, h]
      simp [h, plc, List.takeWhile_cons, this]
theorem plc_le (l : List Sub) (k : K3) : plc l k ≤ l.length := (List.takeWhile_sublist (ltK k)).length_le
def hasK (l : List Sub) (k : K3) : Bool := match l[plc l k]? with
  | some s => decide (keyS s = k)
  | none => false
theorem find_eq (N : Nat) (t : Topic) (a1 : Ref) (a2 : ByteArray) : streams_find N t a1 a2 = some (((plc t.Subs (keyR a1 a2) : Nat) : Int), hasK t.Subs (keyR a1 a2)) := by
  rw [streams_find, find_L1, Nat.zero_add, streams_find_J1]
  unfold hasK
  cases h : t.Subs[plc t.Subs (keyR a1 a2)]? with
  | none =>
    have := List.getElem?_eq_none_iff.1 h
    rw [if_neg (by omega)]
  | some s =>
    have := (List.getElem?_eq_some_iff.1 h).1
    rw [if_pos (by omega), gx_nat h, compare_eq]
    simp [cmpK_zero]
end Go.Proofs.Ytpkfhjbgnpdgcaa

set_option linter.unusedSimpArgs false
set_option linter.unusedVariables false
namespace Go.Proofs.Ytpkfhjbgnpdgcaa
open Go Go.Proofs Go.Abs
theorem publish_eq (N : Nat) {t : Topic} (h : VT t) (x : Int) : streams_Publish N t x =
    some (if t.Events.length = 64 ∨ t.First + t.Events.length = 1099511627776 then (⟨⟨#[]⟩, 0, [], []⟩, 0, 5) else (⟨t.Name, t.First, t.Events ++ [x], t.Subs⟩, t.First + t.Events.length, 0)) := by
  have := h.ev
  simp only [streams_Publish, valid_eq, (VB_iff t).2 h, Option.bind_some, if_true, end_eq N h, streams_Publish_J1, streams_Publish_J2, clone_eq N h]
  by_cases h1 : t.Events.length = 64
  · have : (t.Events.length : Int) = 64 := by omega
    simp [h1, this]
  · have h1' : ¬ (t.Events.length : Int) = 64 := by omega
    by_cases h2 : t.First + t.Events.length = 1099511627776
    · simp [h1, h1', h2]
    · simp only [h1, h1', h2, if_false, or_self, decide_false, Bool.false_eq_true]
      rw [apx_ok (by simp; omega)]
theorem publish_VT {t : Topic} (h : VT t) (h1 : ¬ t.Events.length = 64) (h2 : ¬ t.First + t.Events.length = 1099511627776) (x : Int) : VT ⟨t.Name, t.First, t.Events ++ [x], t.Subs⟩ := by
  have a := h.ev; have b := h.f1
  refine ⟨h.name, h.f0, by simp; omega, by simp; omega, h.sl, fun s hs => ?_, h.so⟩
  have := h.sk s hs
  simp only [List.length_append, List.length_cons, List.length_nil]
  exact ⟨this.1, this.2.1, by omega⟩
end Go.Proofs.Ytpkfhjbgnpdgcaa

set_option linter.unusedSimpArgs false
set_option linter.unusedVariables false
namespace Go.Proofs.Ytpkfhjbgnpdgcaa
open Go Go.Proofs Go.Abs
theorem plc_split : ∀ (l : List Sub) (k : K3), (l.Pairwise fun a b => cmpK (keyS a) (keyS b) < 0) → hasK l k = false →
    (∀ s ∈ l.take (plc l k), cmpK (keyS s) k < 0) ∧ ∀ s ∈ l.drop (plc l k), cmpK k (keyS s) < 0
  | [], k, hp, hk => by simp [plc]
  | x :: xs, k, hp, hk => by
    rw [List.pairwise_cons] at hp
    by_cases h : cmpK (keyS x) k < 0
    · have hl : ltK k x = true := by simp [ltK, h]
      have e : plc (x :: xs) k = plc xs k + 1 := by simp [plc, List.takeWhile_cons, hl]
      have hk' : hasK xs k = false := by unfold hasK at hk ⊢; rw [e] at hk; simpa using hk
      obtain ⟨i1, i2⟩ := plc_split xs k hp.2 hk'
      rw [e]
      refine ⟨?_, by simpa using i2⟩
      intro s hs
      rw [List.take_succ_cons, List.mem_cons] at hs
      rcases hs with rfl | hs
      · exact h
      · exact i1 s hs
    · have hl : ltK k x = false := by simp [ltK, h]
      have e : plc (x :: xs) k = 0 := by simp [plc, List.takeWhile_cons, hl]
      have hne : keyS x ≠ k := by
        intro hh
        unfold hasK at hk
        rw [e] at hk
        simp [hh] at hk
      have hx : cmpK k (keyS x) < 0 := by
        rcases cmpK_tri (keyS x) k with a | a | a
        · exact absurd a h
        · exact absurd a hne
        · exact a
      rw [e]
      refine ⟨by simp, ?_⟩
      intro s hs
      rw [List.drop_zero, List.mem_cons] at hs
      rcases hs with rfl | hs
      · exact hx
      · exact cmpK_trans hx (hp.1 s hs)
def insS (l : List Sub) (s : Sub) : List Sub := l.take (plc l (keyS s)) ++ [s] ++ l.drop (plc l (keyS s))
theorem insS_mem {l : List Sub} {s x : Sub} : x ∈ insS l s ↔ x = s ∨ x ∈ l := by
  unfold insS
  have : x ∈ l ↔ x ∈ l.take (plc l (keyS s)) ∨ x ∈ l.drop (plc l (keyS s)) := by
    rw [← List.mem_append, List.take_append_drop]
  rw [this]
  simp only [List.mem_append, List.mem_singleton]
  constructor
  · rintro ((h | h) | h)
    · exact .inr (.inl h)
    · exact .inl h
    · exact .inr (.inr h)
  · rintro (h | h | h)
    · exact .inl (.inr h)
    · exact .inl (.inl h)
    · exact .inr h
theorem insS_sorted {l : List Sub} {s : Sub} (hp : l.Pairwise fun a b => cmpK (keyS a) (keyS b) < 0) (hk : hasK l (keyS s) = false) : (insS l s).Pairwise fun a b => cmpK (keyS a) (keyS b) < 0 := by
  obtain ⟨h1, h2⟩ := plc_split l (keyS s) hp hk
  unfold insS
  rw [List.append_assoc, List.pairwise_append]
  have hp' := hp
  rw [← List.take_append_drop (plc l (keyS s)) l, List.pairwise_append] at hp'
  refine ⟨hp'.1, ?_, ?_⟩
  · rw [List.singleton_append, List.pairwise_cons]
    exact ⟨h2, hp'.2.1⟩
  · intro a ha b hb
    rw [List.singleton_append, List.mem_cons] at hb
    rcases hb with rfl | hb
    · exact h1 a ha
    · exact hp'.2.2 a ha b hb
end Go.Proofs.Ytpkfhjbgnpdgcaa

set_option linter.unusedSimpArgs false
set_option linter.unusedVariables false
namespace Go.Proofs.Ytpkfhjbgnpdgcaa
open Go Go.Proofs Go.Abs
abbrev noT : Topic := ⟨⟨#[]⟩, 0, [], []⟩
theorem subscribe_eq (N : Nat) {t : Topic} (h : VT t) (a : Ref) (m : ByteArray) : streams_Subscribe N t a m =
    some (if keyB a m = false then (noT, 1) else if hasK t.Subs (keyR a m) = true then (noT, 7) else if t.Subs.length = 8 then (noT, 5)
      else (⟨t.Name, t.First, t.Events, insS t.Subs ⟨a, m, t.First + t.Events.length⟩⟩, 0)) := by
  have hs := h.sl
  have hp := plc_le t.Subs (keyR a m)
  simp only [streams_Subscribe, valid_eq, (VB_iff t).2 h, Option.bind_some, if_true, validKey_eq, streams_Subscribe_J1, streams_Subscribe_J2, find_eq, end_eq N h, clone_eq N h]
  cases hk : keyB a m
  · simp
  · cases hh : hasK t.Subs (keyR a m)
    · by_cases h8 : t.Subs.length = 8
      · simp [h8]
      · have h8' : ¬ (t.Subs.length : Int) = 8 := by omega
        simp only [h8, h8', if_false, Bool.not_true, Bool.false_eq_true, reduceCtorEq, slices_Insert_Sub, insM]
        rw [if_pos ⟨by omega, by omega, rfl, by omega⟩]
        rfl
    · simp
theorem insS_len (l : List Sub) (s : Sub) : (insS l s).length = l.length + 1 := by
  unfold insS
  have := plc_le l (keyS s)
  simp; omega
theorem subscribe_VT {t : Topic} (h : VT t) (a : Ref) (m : ByteArray) (h1 : keyB a m = true) (h2 : hasK t.Subs (keyR a m) = false) (h3 : ¬ t.Subs.length = 8) :
    VT ⟨t.Name, t.First, t.Events, insS t.Subs ⟨a, m, t.First + t.Events.length⟩⟩ := by
  refine ⟨h.name, h.f0, h.ev, h.f1, ?_, fun s hs => ?_, insS_sorted h.so h2⟩
  · have := h.sl
    simp only [insS_len]; omega
  · rcases insS_mem.1 hs with rfl | hs
    · refine ⟨h1, ?_, ?_⟩ <;> simp only <;> omega
    · exact h.sk s hs
theorem hasK_iff : ∀ {l : List Sub} (hp : l.Pairwise fun a b => cmpK (keyS a) (keyS b) < 0) {s : Sub}, s ∈ l → l[plc l (keyS s)]? = some s ∧ hasK l (keyS s) = true
  | x :: xs, hp, s, hs => by
    rw [List.pairwise_cons] at hp
    rw [List.mem_cons] at hs
    by_cases hx : cmpK (keyS x) (keyS s) < 0
    · have hs' : s ∈ xs := by
        rcases hs with rfl | hs
        · exact absurd hx (cmpK_irrefl _)
        · exact hs
      have hl : ltK (keyS s) x = true := by simp [ltK, hx]
      have e : plc (x :: xs) (keyS s) = plc xs (keyS s) + 1 := by simp [plc, List.takeWhile_cons, hl]
      obtain ⟨h1, h2⟩ := hasK_iff hp.2 hs'
      refine ⟨by rw [e]; simpa using h1, ?_⟩
      unfold hasK; rw [e]; simp [h1]
    · have hs' : s = x := by
        rcases hs with rfl | hs
        · rfl
        · exact absurd (hp.1 s hs) hx
      subst hs'
      have hl : ltK (keyS s) s = false := by simp [ltK, hx]
      have e : plc (s :: xs) (keyS s) = 0 := by simp [plc, List.takeWhile_cons, hl]
      refine ⟨by rw [e]; simp, ?_⟩
      unfold hasK; rw [e]; simp
theorem hasK_some {l : List Sub} {k : K3} (h : hasK l k = true) : ∃ s, l[plc l k]? = some s ∧ keyS s = k := by
  unfold hasK at h
  split at h
  · rename_i s hs; exact ⟨s, hs, of_decide_eq_true h⟩
  · cases h
theorem unsubscribe_eq (N : Nat) {t : Topic} (h : VT t) (a : Ref) (m : ByteArray) : streams_Unsubscribe N t a m =
    some (if hasK t.Subs (keyR a m) = true then (⟨t.Name, t.First, t.Events, t.Subs.take (plc t.Subs (keyR a m)) ++ t.Subs.drop (plc t.Subs (keyR a m) + 1)⟩, 0) else (noT, 6)) := by
  have hs := h.sl
  simp only [streams_Unsubscribe, valid_eq, (VB_iff t).2 h, Option.bind_some, if_true, find_eq, clone_eq N h]
  cases hh : hasK t.Subs (keyR a m)
  · simp
  · obtain ⟨s, hs1, _⟩ := hasK_some hh
    have hlt := (List.getElem?_eq_some_iff.1 hs1).1
    simp only [if_true, slices_Delete_Sub, delM]
    rw [w64 (by omega) (by omega), if_pos ⟨by omega, by omega, by omega⟩]
    simp only [Option.bind_some, Int.toNat_natCast]
    congr 1
theorem del_sublist {α : Type} (l : List α) (p : Nat) : (l.take p ++ l.drop (p + 1)).Sublist l := by
  conv => rhs; rw [← List.take_append_drop p l]
  exact List.Sublist.append (List.Sublist.refl _) (by rw [← List.drop_drop]; exact List.drop_sublist _ _)
theorem unsubscribe_VT {t : Topic} (h : VT t) (p : Nat) : VT ⟨t.Name, t.First, t.Events, t.Subs.take p ++ t.Subs.drop (p + 1)⟩ := by
  have hs := del_sublist t.Subs p
  exact ⟨h.name, h.f0, h.ev, h.f1, Nat.le_trans hs.length_le h.sl, fun s hx => h.sk s (hs.subset hx), h.so.sublist hs⟩
def minC (e : Int) (l : List Sub) : Int := l.foldl (fun m s => if s.Cursor < m then s.Cursor else m) e
theorem trim_L1 (kx : Int → Option Topic) : ∀ (l : List Sub) (i : Nat) (m : Int), streams_Trim_L1 kx l i m = kx (minC m l)
  | [], i, m => rfl
  | x :: xs, i, m => by rw [streams_Trim_L1, trim_L1 kx xs]; rfl
theorem minC_le : ∀ (l : List Sub) (e f : Int), (∀ s ∈ l, f ≤ s.Cursor) → f ≤ e → f ≤ minC e l ∧ minC e l ≤ e ∧ ∀ s ∈ l, minC e l ≤ s.Cursor
  | [], e, f, h, he => by simp [minC, he]
  | x :: xs, e, f, h, he => by
    have ih := minC_le xs (if x.Cursor < e then x.Cursor else e) f (fun s hs => h s (List.mem_cons_of_mem _ hs)) (by have := h x (by simp); split <;> omega)
    have e' : minC e (x :: xs) = minC (if x.Cursor < e then x.Cursor else e) xs := rfl
    rw [e']
    by_cases hc : x.Cursor < e
    · rw [if_pos hc] at ih ⊢
      refine ⟨ih.1, by omega, fun s hs => ?_⟩
      rcases List.mem_cons.1 hs with rfl | hs
      · exact ih.2.1
      · exact ih.2.2 s hs
    · rw [if_neg hc] at ih ⊢
      refine ⟨ih.1, ih.2.1, fun s hs => ?_⟩
      rcases List.mem_cons.1 hs with rfl | hs
      · omega
      · exact ih.2.2 s hs
theorem trim_eq (N : Nat) {t : Topic} (h : VT t) : streams_Trim N t =
    some ⟨t.Name, minC (t.First + t.Events.length) t.Subs, t.Events.drop (minC (t.First + t.Events.length) t.Subs - t.First).toNat, t.Subs⟩ := by
  have a1 := h.f0; have a2 := h.f1; have a3 := h.ev
  obtain ⟨b1, b2, b3⟩ := minC_le t.Subs (t.First + t.Events.length) t.First (fun s hs => (h.sk s hs).2.1) (by omega)
  simp only [streams_Trim, valid_eq, (VB_iff t).2 h, Option.bind_some, if_true, end_eq N h, trim_L1, streams_Trim_J1, clone_eq N h]
  rw [w64 (by omega) (by omega)]
  generalize minC (t.First + t.Events.length) t.Subs = m at *
  unfold slx
  rw [if_pos ⟨by omega, by omega, by omega, by omega⟩]
  have e : List.take (((t.Events.length : Nat) : Int).toNat - (m - t.First).toNat) (List.drop (m - t.First).toNat t.Events) = List.drop (m - t.First).toNat t.Events :=
    List.take_of_length_le (by simp)
  rw [e]
  show apn 7 _ _ = _
  rw [apn_ok (by simp; omega)]
theorem trim_VT {t : Topic} (h : VT t) : VT ⟨t.Name, minC (t.First + t.Events.length) t.Subs, t.Events.drop (minC (t.First + t.Events.length) t.Subs - t.First).toNat, t.Subs⟩ := by
  have a1 := h.f0; have a2 := h.f1; have a3 := h.ev
  obtain ⟨b1, b2, b3⟩ := minC_le t.Subs (t.First + t.Events.length) t.First (fun s hs => (h.sk s hs).2.1) (by omega)
  refine ⟨h.name, by simp only; omega, by simp only [List.length_drop]; omega, by simp only [List.length_drop]; omega, h.sl, fun s hs => ?_, h.so⟩
  have c1 := h.sk s hs
  have c2 := b3 s hs
  simp only [List.length_drop]
  exact ⟨c1.1, c2, by omega⟩
def pen (t : Topic) (s : Sub) : List Delivery :=
  if s.Cursor < t.First + t.Events.length then [⟨s.Target, s.Method, s.Cursor, (t.Events[(s.Cursor - t.First).toNat]?).getD 0⟩] else []
theorem pending_L1 (N : Nat) {t : Topic} (h : VT t) : ∀ (l : List Sub) (i : Nat) (acc : List Delivery), (∀ s ∈ l, s ∈ t.Subs) → acc.length + l.length ≤ 8 →
    streams_Pending_L1 N t l i acc = some (acc ++ l.flatMap (pen t))
  | [], i, acc, hm, hl => by simp [streams_Pending_L1]
  | x :: xs, i, acc, hm, hl => by
    have a1 := h.f0; have a2 := h.f1; have a3 := h.ev
    have hx := h.sk x (hm x (by simp))
    rw [streams_Pending_L1]
    simp only [end_eq N h, Option.bind_some, List.flatMap_cons]
    simp only [List.length_cons] at hl
    by_cases hc : x.Cursor < t.First + t.Events.length
    · have hlt : (x.Cursor - t.First).toNat < t.Events.length := by omega
      rw [if_pos hc, w64 (by omega) (by omega), show x.Cursor - t.First = (((x.Cursor - t.First).toNat : Nat) : Int) by omega, gx_nat (List.getElem?_eq_getElem hlt), apx_ok (by simp; omega),
        pending_L1 N h xs (i + 1) _ (fun s hs => hm s (List.mem_cons_of_mem _ hs)) (by simp; omega)]
      simp [pen, hc, hlt]
    · rw [if_neg hc, pending_L1 N h xs (i + 1) _ (fun s hs => hm s (List.mem_cons_of_mem _ hs)) (by omega)]
      simp [pen, hc]
theorem pending_eq (N : Nat) {t : Topic} (h : VT t) : streams_Pending N t = some (t.Subs.flatMap (pen t)) := by
  simp only [streams_Pending, valid_eq, (VB_iff t).2 h, Option.bind_some, if_true]
  rw [pending_L1 N h t.Subs 0 [] (fun _ h => h) (by have := h.sl; simp; omega)]
  simp
theorem mem_pending {t : Topic} (h : VT t) {d : Delivery} : d ∈ t.Subs.flatMap (pen t) ↔
    ∃ s ∈ t.Subs, s.Cursor < t.First + t.Events.length ∧ d.Target = s.Target ∧ d.Method = s.Method ∧ d.Seq = s.Cursor ∧ t.Events[(s.Cursor - t.First).toNat]? = some d.Value := by
  rw [List.mem_flatMap]
  constructor
  · rintro ⟨s, hs, hd⟩
    refine ⟨s, hs, ?_⟩
    unfold pen at hd
    split at hd
    · rename_i hc
      have := h.sk s hs
      have hlt : (s.Cursor - t.First).toNat < t.Events.length := by omega
      simp only [List.mem_singleton] at hd
      subst hd
      exact ⟨hc, rfl, rfl, rfl, by simp [hlt]⟩
    · simp at hd
  · rintro ⟨s, hs, hc, e1, e2, e3, e4⟩
    refine ⟨s, hs, ?_⟩
    unfold pen
    rw [if_pos hc, List.mem_singleton, e4]
    cases d
    simp_all
theorem ack_eq (N : Nat) {t : Topic} (h : VT t) {s : Sub} (hs : s ∈ t.Subs) (hc : s.Cursor < t.First + t.Events.length) : streams_Ack N t s.Target s.Method s.Cursor =
    some (⟨t.Name, t.First, t.Events, t.Subs.set (plc t.Subs (keyS s)) ⟨s.Target, s.Method, s.Cursor + 1⟩⟩, 0) := by
  have a1 := h.f0; have a2 := h.f1; have a3 := h.ev
  have b := h.sk s hs
  obtain ⟨h1, h2⟩ := hasK_iff h.so hs
  have e : keyR s.Target s.Method = keyS s := rfl
  simp only [streams_Ack, valid_eq, (VB_iff t).2 h, Option.bind_some, if_true, find_eq, e, h2, gx_nat h1, Int.lt_irrefl, if_false, end_eq N h, streams_Ack_J1, streams_Ack_J2, clone_eq N h]
  have : ¬ s.Cursor = t.First + t.Events.length := by omega
  simp only [this, decide_false, Bool.false_eq_true, if_false, Int.toNat_natCast]
  rw [w64 (by omega) (by omega)]
theorem pairwise_set_key {l : List Sub} {p : Nat} {s s' : Sub} (hp : l[p]? = some s) (hk : keyS s' = keyS s) (h : l.Pairwise fun a b => cmpK (keyS a) (keyS b) < 0) :
    (l.set p s').Pairwise fun a b => cmpK (keyS a) (keyS b) < 0 := by
  have e : ∀ {l : List Sub}, (l.Pairwise fun a b => cmpK (keyS a) (keyS b) < 0) ↔ (l.map keyS).Pairwise (fun a b => cmpK a b < 0) := by
    intro l; rw [List.pairwise_map]
  rw [e] at h ⊢
  have : (l.set p s').map keyS = l.map keyS := by
    rw [List.map_set, hk]
    apply List.ext_getElem?
    intro i
    rw [List.getElem?_set]
    split
    · rename_i hi; subst hi
      have hlt := (List.getElem?_eq_some_iff.1 hp).1
      simp [hlt, hp]
      exact ((List.getElem?_eq_some_iff.1 hp).2 ▸ rfl)
    · rfl
  rw [this]; exact h
theorem ack_VT {t : Topic} (h : VT t) {s : Sub} (hs : s ∈ t.Subs) (hc : s.Cursor < t.First + t.Events.length) :
    VT ⟨t.Name, t.First, t.Events, t.Subs.set (plc t.Subs (keyS s)) ⟨s.Target, s.Method, s.Cursor + 1⟩⟩ := by
  obtain ⟨h1, h2⟩ := hasK_iff h.so hs
  have b := h.sk s hs
  refine ⟨h.name, h.f0, h.ev, h.f1, by simpa using h.sl, fun x hx => ?_, pairwise_set_key h1 rfl h.so⟩
  rcases List.mem_or_eq_of_mem_set hx with hx | rfl
  · exact h.sk x hx
  · refine ⟨b.1, ?_, ?_⟩ <;> simp only <;> omega
end Go.Proofs.Ytpkfhjbgnpdgcaa

set_option linter.unusedSimpArgs false
set_option linter.unusedVariables false
namespace Go.Proofs.Ytpkfhjbgnpdgcaa
open Go Go.Proofs Go.Abs
theorem ref_eq (N : Nat) {w : Int} (h0 : 0 ≤ w) (h1 : w ≤ 255) : ∃ k m, law30_ref N w = some (⟨⟨#[65]⟩, k⟩, m) := by
  have e1 : Int.tmod w 12 = w % 12 := Int.tmod_eq_emod_of_nonneg h0
  have w1 : IntKind.i64.wrap (w % 12) = w % 12 := w64 (by omega) (by omega)
  have e2 : Int.tdiv (w % 12) 2 = w % 12 / 2 := Int.tdiv_eq_ediv_of_nonneg (by omega)
  have w2 : IntKind.i64.wrap (w % 12 / 2) = w % 12 / 2 := w64 (by omega) (by omega)
  have w3 : IntKind.i64.wrap (w % 12 / 2 + 1) = w % 12 / 2 + 1 := w64 (by omega) (by omega)
  have e3 : Int.tmod (w % 12) 2 = w % 12 % 2 := Int.tmod_eq_emod_of_nonneg (by omega)
  have w4 : IntKind.i64.wrap (w % 12 % 2 + 1) = w % 12 % 2 + 1 := w64 (by omega) (by omega)
  have z1 : (ByteArray.mk #[97, 98, 99, 100, 101, 102]).size = 6 := rfl
  have z2 : (ByteArray.mk #[120, 121]).size = 2 := rfl
  unfold law30_ref
  rw [e1, w1, e2, w2, w3, e3, w4]
  unfold sls
  rw [if_pos ⟨by omega, by omega, by omega, by rw [z1]; omega⟩]
  simp only
  rw [if_pos ⟨by omega, by omega, by omega, by rw [z2]; omega⟩]
  exact ⟨_, _, rfl⟩
theorem gx_in {α β : Type} {l : List α} {i : Int} {k : α → Option β} (h0 : 0 ≤ i) (h1 : i < l.length) : ∃ x, x ∈ l ∧ gx l i k = k x := by
  have hlt : i.toNat < l.length := by omega
  refine ⟨l[i.toNat], List.getElem_mem hlt, ?_⟩
  rw [gx_at ⟨h0, h1⟩, List.getElem?_eq_getElem hlt]; rfl
end Go.Proofs.Ytpkfhjbgnpdgcaa

set_option linter.unusedSimpArgs false
set_option linter.unusedVariables false
namespace Go.Proofs.Ytpkfhjbgnpdgcaa
open Go Go.Proofs Go.Abs
theorem rname_eq (N : Nat) (s : ByteArray) : ref16_ValidName N s = some (nameB s) := by
  rw [← validName_eq N s]; rfl
theorem less_eq (N : Nat) (a0 a1 : Ref) (a2 a3 : ByteArray) : ref29_lessSub N a0 a1 a2 a3 = some (decide (cmpK (keyR a0 a2) (keyR a1 a3) < 0)) := by
  have k := cmpK_neg (x := keyR a0 a2) (y := keyR a1 a3)
  simp only [keyR] at k
  simp only [ref29_lessSub, ref14_Less]
  cases h1 : sLt a0.Type_ a1.Type_
  · by_cases h2 : a0.Type_ = a1.Type_
    · have e2 := sEq_iff.2 h2
      cases h3 : sLt a0.Key a1.Key
      · by_cases h4 : a0.Key = a1.Key
        · have e4 := sEq_iff.2 h4
          cases h5 : sLt a2 a3
          · have : ¬ cmpK (keyR a0 a2) (keyR a1 a3) < 0 := fun h => by have := k.1 h; simp [h1, h3, h5] at this
            simp [h1, e2, h3, e4, h5, this]
          · have : cmpK (keyR a0 a2) (keyR a1 a3) < 0 := k.2 (.inr ⟨h2, .inr ⟨h4, h5⟩⟩)
            simp [h1, e2, h3, e4, h5, this]
        · have e4 : sEq a0.Key a1.Key = false := by rw [Bool.eq_false_iff]; exact fun h => h4 (sEq_iff.1 h)
          have : ¬ cmpK (keyR a0 a2) (keyR a1 a3) < 0 := fun h => by have := k.1 h; simp [h1, h3, h4] at this
          simp [h1, e2, h3, e4, this]
      · have : cmpK (keyR a0 a2) (keyR a1 a3) < 0 := k.2 (.inr ⟨h2, .inl h3⟩)
        simp [h1, e2, h3, this]
    · have e2 : sEq a0.Type_ a1.Type_ = false := by rw [Bool.eq_false_iff]; exact fun h => h2 (sEq_iff.1 h)
      have : ¬ cmpK (keyR a0 a2) (keyR a1 a3) < 0 := fun h => by have := k.1 h; simp [h1, h2] at this
      simp [h1, e2, this]
  · have : cmpK (keyR a0 a2) (keyR a1 a3) < 0 := k.2 (.inl h1)
    simp [h1, this]
theorem rvalid_L1 (N : Nat) {t : Topic} (h : VT t) : ∀ (xs : List Sub) (v : Nat), t.Subs.drop v = xs → ref29_ValidTopic_L1 N t xs v () = some true
  | [], v, hd => rfl
  | x :: xs, v, hd => by
    have a1 := h.f0; have a2 := h.f1; have a3 := h.ev; have a4 := h.sl
    have hvl : v < t.Subs.length := by
      rcases Nat.lt_or_ge v t.Subs.length with h | h
      · exact h
      · rw [List.drop_eq_nil_of_le h] at hd; simp at hd
    rw [List.drop_eq_getElem_cons hvl] at hd
    simp only [List.cons.injEq] at hd
    have hx : t.Subs[v]? = some x := by rw [List.getElem?_eq_getElem hvl, hd.1]
    obtain ⟨b1, b2, b3⟩ := h.sk x (List.mem_of_getElem? hx)
    have ih := rvalid_L1 N h xs (v + 1) hd.2
    simp only [keyB, Bool.and_eq_true, decide_eq_true_eq] at b1
    have hr : ref14_ValidRef N x.Target = some true := by
      have := b1.1.1
      simp only [nameB, Bool.and_eq_true, decide_eq_true_eq] at this
      unfold ref14_ValidRef
      rw [if_pos (by omega), if_pos (by omega)]
      simp; omega
    have hw : IntKind.i64.wrap (t.First + (t.Events.length : Int)) = t.First + (t.Events.length : Int) := w64 (by omega) (by omega)
    have hJ : ref29_ValidTopic_J4 v t N x (ref29_ValidTopic_L1 N t xs (v + 1)) = some true := by
      unfold ref29_ValidTopic_J4
      by_cases h0 : 0 < v
      · have hp : t.Subs[v - 1]? = some t.Subs[v - 1] := List.getElem?_eq_getElem (by omega)
        have hlt := List.pairwise_iff_getElem.1 h.so (v - 1) v (by omega) hvl (by omega)
        have hxe : t.Subs[v] = x := hd.1
        rw [hxe] at hlt
        rw [if_pos (by omega), w64 (by omega) (by omega), show ((v : Int) - 1) = ((v - 1 : Nat) : Int) by omega, gx_nat hp, less_eq]
        have : cmpK (keyR (t.Subs[v - 1]).Target (t.Subs[v - 1]).Method) (keyR x.Target x.Method) < 0 := hlt
        simp [this, ref29_ValidTopic_J3, ih]
      · rw [if_neg (by omega)]
        simp [ref29_ValidTopic_J3, ih]
    rw [ref29_ValidTopic_L1, hr]
    simp only [Option.bind_some, if_true, rname_eq, b1.1.2]
    rw [if_neg (by omega), hw]
    have : ¬ t.First + (t.Events.length : Int) < x.Cursor := by omega
    simp only [this, decide_false, ref29_ValidTopic_J2, Bool.false_eq_true, if_false, hJ]
theorem rvalid_eq (N : Nat) {t : Topic} (h : VT t) : ref29_ValidTopic N t = some true := by
  have a1 := h.f0; have a2 := h.f1; have a3 := h.ev; have a4 := h.sl
  unfold ref29_ValidTopic
  simp only [rname_eq, Option.bind_some, h.name, if_true]
  rw [if_neg (by omega), if_neg (by omega), w64 (by omega) (by omega), if_neg (by omega)]
  have : ¬ (8 : Int) < (t.Subs.length : Int) := by omega
  simp only [this, decide_false, ref29_ValidTopic_J1, Bool.false_eq_true, if_false, ref29_ValidTopic_J5]
  exact rvalid_L1 N h _ 0 rfl
theorem rcopy_eq (N : Nat) {t : Topic} (h : VT t) : ref29_CopyTopic N t = some t := by
  have := h.ev; have := h.sl
  simp only [ref29_CopyTopic]
  rw [apn_ok (by omega), apn_ok (by omega)]
theorem subOf_L1 (N : Nat) (t : Topic) (a1 : Ref) (a2 : ByteArray) : ∀ (xs : List Sub) (v : Nat), v + xs.length = t.Subs.length →
    ref29_subOf_L1 t N a1 a2 xs v () = some (((v + plc xs (keyR a1 a2) : Nat) : Int), hasK xs (keyR a1 a2))
  | [], v, hv => by
    simp only [ref29_subOf_L1, plc, hasK, List.takeWhile_nil, List.length_nil] at hv ⊢
    simp; omega
  | x :: xs, v, hv => by
    rw [ref29_subOf_L1, less_eq]
    simp only [Option.bind_some]
    by_cases h : cmpK (keyS x) (keyR a1 a2) < 0
    · have hl : ltK (keyR a1 a2) x = true := by simp [ltK, h]
      have h' : cmpK (keyR x.Target x.Method) (keyR a1 a2) < 0 := h
      have e : plc (x :: xs) (keyR a1 a2) = plc xs (keyR a1 a2) + 1 := by simp [plc, List.takeWhile_cons, hl]
      have e2 : hasK (x :: xs) (keyR a1 a2) = hasK xs (keyR a1 a2) := by unfold hasK; rw [e]; simp
      simp only [h', decide_true, if_true]
      rw [subOf_L1 N t a1 a2 xs (v + 1) (by simp only [List.length_cons] at hv; omega), e, e2]
      congr 3; omega
    · have hl : ltK (keyR a1 a2) x = false := by simp [ltK, h]
      have h' : ¬ cmpK (keyR x.Target x.Method) (keyR a1 a2) < 0 := h
      have e : plc (x :: xs) (keyR a1 a2) = 0 := by simp [plc, List.takeWhile_cons, hl]
      have e2 : hasK (x :: xs) (keyR a1 a2) = decide (keyS x = keyR a1 a2) := by unfold hasK; rw [e]; simp
      simp only [h', decide_false, Bool.false_eq_true, if_false, e, e2]
      by_cases hq : (sEq x.Target.Type_ a1.Type_ && sEq x.Target.Key a1.Key) = true
      · rw [if_pos hq]
        rw [Bool.and_eq_true, sEq_iff, sEq_iff] at hq
        have : sEq x.Method a2 = decide (keyS x = keyR a1 a2) := by
          rw [Bool.eq_iff_iff, sEq_iff, decide_eq_true_eq, keyS, keyR, hq.1, hq.2]; simp
        rw [this]; rfl
      · rw [if_neg hq]
        have : decide (keyS x = keyR a1 a2) = false := by
          rw [decide_eq_false_iff_not]
          intro hk
          apply hq
          rw [Bool.and_eq_true, sEq_iff, sEq_iff]
          exact ⟨congrArg Prod.fst hk, congrArg (fun q : K3 => q.2.1) hk⟩
        rw [this]; rfl
theorem subOf_eq (N : Nat) (t : Topic) (a1 : Ref) (a2 : ByteArray) : ref29_subOf N t a1 a2 = some (((plc t.Subs (keyR a1 a2) : Nat) : Int), hasK t.Subs (keyR a1 a2)) := by
  rw [ref29_subOf, subOf_L1 N t a1 a2 _ 0 (by omega), Nat.zero_add]
theorem rend {t : Topic} (h : VT t) : IntKind.i64.wrap (t.First + (t.Events.length : Int)) = t.First + (t.Events.length : Int) := by
  have := h.f1; have := h.f0; have := h.ev
  exact w64 (by omega) (by omega)
theorem rpublish_eq (N : Nat) {t : Topic} (h : VT t) (x : Int) : ref29_Publish N t x = streams_Publish N t x := by
  have := h.ev
  rw [publish_eq N h]
  simp only [ref29_Publish, rvalid_eq N h, Option.bind_some, if_true, rend h, ref29_Publish_J1, ref29_Publish_J2, rcopy_eq N h]
  by_cases h1 : t.Events.length = 64
  · have : (t.Events.length : Int) = 64 := by omega
    simp [h1, this]
  · have h1' : ¬ (t.Events.length : Int) = 64 := by omega
    by_cases h2 : t.First + t.Events.length = 1099511627776
    · simp [h1, h1', h2]
    · simp only [h1, h1', h2, if_false, or_self, decide_false, Bool.false_eq_true]
      rw [apx_ok (by simp; omega)]
theorem rsubscribe_eq (N : Nat) {t : Topic} (h : VT t) (a : Ref) (m : ByteArray) : ref29_Subscribe N t a m = streams_Subscribe N t a m := by
  have hs := h.sl
  have hp := plc_le t.Subs (keyR a m)
  rw [subscribe_eq N h]
  have hv : ref14_ValidRef N a = some (nameB a.Type_ && decide (a.Key.size ≤ 32)) := by
    unfold ref14_ValidRef nameB
    by_cases c1 : 1 ≤ a.Type_.size
    · rw [if_pos (by omega)]
      by_cases c2 : a.Type_.size ≤ 32
      · rw [if_pos (by omega)]; simp [c1, c2]; omega
      · rw [if_neg (by omega)]; simp [c2]
    · rw [if_neg (by omega)]; simp [c1]
  simp only [ref29_Subscribe, rvalid_eq N h, Option.bind_some, if_true, hv, rname_eq, ref29_Subscribe_J1, ref29_Subscribe_J2, subOf_eq, rcopy_eq N h, keyB]
  by_cases k1 : nameB a.Type_ = true
  rotate_left
  · simp [k1]
  by_cases k2 : a.Key.size ≤ 32
  rotate_left
  · simp [k1, k2]
  by_cases k3 : nameB m = true
  rotate_left
  · simp [k1, k2, k3]
  by_cases hh : hasK t.Subs (keyR a m) = true
  · simp [k1, k2, k3, hh]
  by_cases h8 : t.Subs.length = 8
  · simp [k1, k2, k3, hh, h8]
  have h8' : ¬ (t.Subs.length : Int) = 8 := by omega
  simp only [k1, k2, k3, hh, h8, h8', if_false, Bool.not_true, Bool.false_eq_true, reduceCtorEq, Bool.and_self, if_true, decide_true]
  unfold slx
  rw [if_pos ⟨by omega, by omega, by omega, by omega⟩]
  have e : List.take (((t.Subs.length : Nat) : Int).toNat - ((plc t.Subs (keyR a m) : Nat) : Int).toNat) (List.drop ((plc t.Subs (keyR a m) : Nat) : Int).toNat t.Subs) = List.drop (plc t.Subs (keyR a m)) t.Subs := by
    rw [Int.toNat_natCast]; exact List.take_of_length_le (by simp)
  rw [e]
  show apn 55 _ _ = _
  rw [apn_ok (by simp; omega)]
  unfold slt
  rw [if_pos ⟨by omega, by omega⟩]
  dsimp only
  rw [apx_ok (by simp; omega), apx_ok (by simp; omega), rend h]
  simp only [Int.toNat_natCast]
  rfl
theorem runsubscribe_eq (N : Nat) {t : Topic} (h : VT t) (a : Ref) (m : ByteArray) : ref29_Unsubscribe N t a m = streams_Unsubscribe N t a m := by
  have hs := h.sl
  rw [unsubscribe_eq N h]
  simp only [ref29_Unsubscribe, rvalid_eq N h, Option.bind_some, if_true, subOf_eq, rcopy_eq N h]
  cases hh : hasK t.Subs (keyR a m)
  · simp
  · obtain ⟨s, hs1, _⟩ := hasK_some hh
    have hlt := (List.getElem?_eq_some_iff.1 hs1).1
    simp only [if_true]
    unfold slt
    rw [if_pos ⟨by omega, by omega⟩, w64 (by omega) (by omega)]
    dsimp only
    unfold slx
    rw [if_pos ⟨by omega, by omega, by omega, by omega⟩]
    have e : List.take (((t.Subs.length : Nat) : Int).toNat - (((plc t.Subs (keyR a m) : Nat) : Int) + 1).toNat) (List.drop (((plc t.Subs (keyR a m) : Nat) : Int) + 1).toNat t.Subs) = List.drop (plc t.Subs (keyR a m) + 1) t.Subs := by
      rw [show (((plc t.Subs (keyR a m) : Nat) : Int) + 1).toNat = plc t.Subs (keyR a m) + 1 by omega]; exact List.take_of_length_le (by simp)
    rw [e]
    dsimp only
    simp only [Int.toNat_natCast]
    rw [apx_ok (by simp; omega)]
theorem rtrim_L1 (kx : Int → Option Topic) : ∀ (l : List Sub) (i : Nat) (m : Int), ref29_Trim_L1 kx l i m = kx (minC m l)
  | [], i, m => rfl
  | x :: xs, i, m => by rw [ref29_Trim_L1, rtrim_L1 kx xs]; rfl
theorem rtrim_eq (N : Nat) {t : Topic} (h : VT t) : ref29_Trim N t = streams_Trim N t := by
  have a1 := h.f0; have a2 := h.f1; have a3 := h.ev
  obtain ⟨b1, b2, b3⟩ := minC_le t.Subs (t.First + t.Events.length) t.First (fun s hs => (h.sk s hs).2.1) (by omega)
  rw [trim_eq N h]
  simp only [ref29_Trim, rvalid_eq N h, Option.bind_some, if_true, rend h, rtrim_L1, ref29_Trim_J1, rcopy_eq N h]
  rw [w64 (by omega) (by omega)]
  generalize minC (t.First + t.Events.length) t.Subs = m at *
  unfold slx
  rw [if_pos ⟨by omega, by omega, by omega, by omega⟩]
  have e : List.take (((t.Events.length : Nat) : Int).toNat - (m - t.First).toNat) (List.drop (m - t.First).toNat t.Events) = List.drop (m - t.First).toNat t.Events :=
    List.take_of_length_le (by simp)
  rw [e]
theorem rack_eq (N : Nat) {t : Topic} (h : VT t) {s : Sub} (hs : s ∈ t.Subs) (hc : s.Cursor < t.First + t.Events.length) : ref29_Ack N t s.Target s.Method s.Cursor = streams_Ack N t s.Target s.Method s.Cursor := by
  have a1 := h.f0; have a2 := h.f1; have a3 := h.ev
  have b := h.sk s hs
  obtain ⟨h1, h2⟩ := hasK_iff h.so hs
  have e : keyR s.Target s.Method = keyS s := rfl
  rw [ack_eq N h hs hc]
  simp only [ref29_Ack, rvalid_eq N h, Option.bind_some, if_true, subOf_eq, e, h2, gx_nat h1, Int.lt_irrefl, if_false, rend h, ref29_Ack_J1, ref29_Ack_J2, rcopy_eq N h]
  have : ¬ s.Cursor = t.First + t.Events.length := by omega
  simp only [this, decide_false, Bool.false_eq_true, if_false, Int.toNat_natCast]
  rw [w64 (by omega) (by omega)]
end Go.Proofs.Ytpkfhjbgnpdgcaa

set_option linter.unusedSimpArgs false
set_option linter.unusedVariables false
namespace Go.Proofs.Ytpkfhjbgnpdgcaa
open Go Go.Proofs Go.Abs
theorem same_L1 (k : Option Bool) (a : Topic) : ∀ (xs : List Int) (v : Nat), a.Events.drop v = xs → ref29_SameTopic_L1 k a xs v () = k
  | [], v, hd => rfl
  | x :: xs, v, hd => by
    have hvl : v < a.Events.length := by
      rcases Nat.lt_or_ge v a.Events.length with h | h
      · exact h
      · rw [List.drop_eq_nil_of_le h] at hd; simp at hd
    rw [List.drop_eq_getElem_cons hvl] at hd
    simp only [List.cons.injEq] at hd
    have hx : a.Events[v]? = some x := by rw [List.getElem?_eq_getElem hvl, hd.1]
    rw [ref29_SameTopic_L1, gx_nat hx, if_pos rfl]
    exact same_L1 k a xs (v + 1) hd.2
theorem same_L2 (a : Topic) : ∀ (xs : List Sub) (v : Nat), a.Subs.drop v = xs → ref29_SameTopic_L2 a xs v () = some true
  | [], v, hd => rfl
  | x :: xs, v, hd => by
    have hvl : v < a.Subs.length := by
      rcases Nat.lt_or_ge v a.Subs.length with h | h
      · exact h
      · rw [List.drop_eq_nil_of_le h] at hd; simp at hd
    rw [List.drop_eq_getElem_cons hvl] at hd
    simp only [List.cons.injEq] at hd
    have hx : a.Subs[v]? = some x := by rw [List.getElem?_eq_getElem hvl, hd.1]
    have r : ∀ s, sEq s s = true := fun s => sEq_iff.2 rfl
    rw [ref29_SameTopic_L2, gx_nat hx, if_pos (by simp [r])]
    exact same_L2 a xs (v + 1) hd.2
theorem same_eq (N : Nat) (a : Topic) : ref29_SameTopic N a a = some true := by
  rw [ref29_SameTopic, if_pos (sEq_iff.2 rfl), if_pos rfl, if_pos rfl]
  simp only [decide_true, Bool.not_true, ref29_SameTopic_J1, Bool.false_eq_true, if_false, ref29_SameTopic_J3, ref29_SameTopic_J2]
  rw [same_L1 _ a a.Events 0 rfl, same_L2 a a.Subs 0 rfl]
def Good (r : Option (Bool × Topic × Topic)) : Prop := ∃ t', VT t' ∧ r = some (true, t', t')
theorem play_J6 (N : Nat) {t : Topic} (h : VT t) (u : Topic) (c : Int) (hu : c = 0 → VT u) : Good (law30_play_J6 N t t u.Name u.First u.Events u.Subs u.Name u.First u.Events u.Subs c c) := by
  have te : ∀ t : Topic, Topic.mk t.Name t.First t.Events t.Subs = t := fun _ => rfl
  rw [law30_play_J6, if_pos rfl, same_eq]
  simp only [Option.bind_some, Bool.not_true, law30_play_J3, Bool.false_eq_true, if_false, law30_play_J5]
  by_cases hc : c = 0
  · rw [if_pos hc, law30_play_J4, te, valid_eq, (VB_iff u).2 (hu hc)]
    exact ⟨u, hu hc, rfl⟩
  · rw [if_neg hc, law30_play_J4, te, valid_eq, (VB_iff t).2 h]
    exact ⟨t, h, rfl⟩
theorem play_J1 (N : Nat) {t : Topic} (h : VT t) (x : actorgridlaw30_Act) (hw : 0 ≤ x.Who ∧ x.Who ≤ 255) (c : Bool) : Good (law30_play_J1 N t x t (law30_play_J6 N t t) c) := by
  rw [law30_play_J1]
  by_cases hc : c = true
  · rw [if_pos hc, pending_eq N h]
    simp only [Option.bind_some]
    by_cases hl : (0 : Int) < (((t.Subs.flatMap (pen t)).length : Nat) : Int)
    · have hl' : ¬ (((t.Subs.flatMap (pen t)).length : Nat) : Int) = 0 := by omega
      rw [if_pos hl, dvx_ok hl', w64 (by omega) (by omega), Int.tmod_eq_emod_of_nonneg hw.1]
      obtain ⟨d, hd, hg⟩ := gx_in (l := t.Subs.flatMap (pen t)) (i := x.Who % (((t.Subs.flatMap (pen t)).length : Nat) : Int)) (k := fun x14 : Delivery =>
        (streams_Ack N t x14.Target x14.Method x14.Seq).bind fun r15 =>
        (ref29_Ack N t x14.Target x14.Method x14.Seq).bind fun r16 =>
        (law30_play_J6 N t t r15.1.Name r15.1.First r15.1.Events r15.1.Subs r16.1.Name r16.1.First r16.1.Events r16.1.Subs r15.2 r16.2)) (Int.emod_nonneg _ hl') (Int.emod_lt_of_pos _ (by omega))
      rw [hg]
      obtain ⟨s, hs, hcur, e1, e2, e3, e4⟩ := (mem_pending h).1 hd
      rw [e1, e2, e3, rack_eq N h hs hcur, ack_eq N h hs hcur]
      simp only [Option.bind_some]
      exact play_J6 N h ⟨t.Name, t.First, t.Events, t.Subs.set (plc t.Subs (keyS s)) ⟨s.Target, s.Method, s.Cursor + 1⟩⟩ 0 (fun _ => ack_VT h hs hcur)
    · rw [if_neg hl]
      exact play_J6 N h t 0 (fun _ => h)
  · rw [if_neg hc, rtrim_eq N h, trim_eq N h]
    exact play_J6 N h _ 0 (fun _ => trim_VT h)
theorem play_J2 (N : Nat) {t : Topic} (h : VT t) (x : actorgridlaw30_Act) (hw : 0 ≤ x.Who ∧ x.Who ≤ 255) (r : Ref × ByteArray) (c : Bool) : Good (law30_play_J2 N t x t (law30_play_J6 N t t) r c) := by
  rw [law30_play_J2]
  by_cases hc : c = true
  · rw [if_pos hc, rpublish_eq N h, publish_eq N h]
    simp only [Option.bind_some]
    by_cases h1 : t.Events.length = 64 ∨ t.First + t.Events.length = 1099511627776
    · rw [if_pos h1]
      exact play_J6 N h noT 5 (fun e => by cases e)
    · rw [if_neg h1]
      exact play_J6 N h ⟨t.Name, t.First, t.Events ++ [x.Value], t.Subs⟩ 0 (fun _ => publish_VT h (fun e => h1 (.inl e)) (fun e => h1 (.inr e)) _)
  rw [if_neg hc]
  by_cases h3 : Int.tmod x.Kind 8 = 3
  · rw [if_pos h3, rsubscribe_eq N h, subscribe_eq N h]
    simp only [Option.bind_some]
    by_cases a1 : keyB r.1 r.2 = false
    · rw [if_pos a1]; exact play_J6 N h noT 1 (fun e => by cases e)
    rw [if_neg a1]
    by_cases a2 : hasK t.Subs (keyR r.1 r.2) = true
    · rw [if_pos a2]; exact play_J6 N h noT 7 (fun e => by cases e)
    rw [if_neg a2]
    by_cases a3 : t.Subs.length = 8
    · rw [if_pos a3]; exact play_J6 N h noT 5 (fun e => by cases e)
    rw [if_neg a3]
    exact play_J6 N h ⟨t.Name, t.First, t.Events, insS t.Subs ⟨r.1, r.2, t.First + t.Events.length⟩⟩ 0 (fun _ => subscribe_VT h _ _ (by simpa using a1) (by simpa using a2) a3)
  rw [if_neg h3]
  by_cases h4 : Int.tmod x.Kind 8 = 4
  · rw [if_pos h4]
    by_cases hv : Int.tmod x.Value 4 = 0
    · rw [if_pos hv, runsubscribe_eq N h, unsubscribe_eq N h]
      simp only [Option.bind_some]
      by_cases a2 : hasK t.Subs (keyR r.1 r.2) = true
      · rw [if_pos a2]
        exact play_J6 N h ⟨t.Name, t.First, t.Events, t.Subs.take (plc t.Subs (keyR r.1 r.2)) ++ t.Subs.drop (plc t.Subs (keyR r.1 r.2) + 1)⟩ 0 (fun _ => unsubscribe_VT h _)
      · rw [if_neg a2]; exact play_J6 N h noT 6 (fun e => by cases e)
    · rw [if_neg hv]; exact play_J6 N h t 0 (fun _ => h)
  rw [if_neg h4]
  split <;> exact play_J1 N h x hw _
theorem play_good (N : Nat) {t : Topic} (h : VT t) (x : actorgridlaw30_Act) (hw : 0 ≤ x.Who ∧ x.Who ≤ 255) : Good (law30_play N t t x) := by
  obtain ⟨k, m, hr⟩ := ref_eq N hw.1 hw.2
  rw [law30_play, hr]
  simp only [Option.bind_some]
  split
  · exact play_J2 N h x hw _ _
  · split <;> exact play_J2 N h x hw _ _
theorem v00 : VT ⟨⟨#[116]⟩, 0, [], []⟩ := ⟨by decide, by decide, by decide, by decide, by decide, by simp, List.Pairwise.nil⟩
theorem dsame_L1 (l : List Delivery) : ∀ (xs : List Delivery) (v : Nat), l.drop v = xs → ref29_SameDeliveries_L1 l xs v () = some true
  | [], v, hd => rfl
  | x :: xs, v, hd => by
    have hvl : v < l.length := by
      rcases Nat.lt_or_ge v l.length with h | h
      · exact h
      · rw [List.drop_eq_nil_of_le h] at hd; simp at hd
    rw [List.drop_eq_getElem_cons hvl] at hd
    simp only [List.cons.injEq] at hd
    have hx : l[v]? = some x := by rw [List.getElem?_eq_getElem hvl, hd.1]
    have r : ∀ s, sEq s s = true := fun s => sEq_iff.2 rfl
    rw [ref29_SameDeliveries_L1, gx_nat hx, if_pos (by simp [r])]
    exact dsame_L1 l xs (v + 1) hd.2
theorem dsame_eq (N : Nat) (l : List Delivery) : ref29_SameDeliveries N l l = some true := by
  rw [ref29_SameDeliveries, if_pos rfl, dsame_L1 l l 0 rfl]
theorem trim_L2 (kx : Int → Option Bool) : ∀ (l : List Sub) (i : Nat) (m : Int), law30_StreamsTrim_L2 kx l i m = kx (minC m l)
  | [], i, m => rfl
  | x :: xs, i, m => by rw [law30_StreamsTrim_L2, trim_L2 kx xs]; rfl
def trimT (t : Topic) : Topic := ⟨t.Name, minC (t.First + t.Events.length) t.Subs, t.Events.drop (minC (t.First + t.Events.length) t.Subs - t.First).toNat, t.Subs⟩
theorem trimT_end {t : Topic} (h : VT t) : (trimT t).First + (trimT t).Events.length = t.First + t.Events.length := by
  obtain ⟨b1, b2, b3⟩ := minC_le t.Subs (t.First + t.Events.length) t.First (fun s hs => (h.sk s hs).2.1) (by omega)
  simp only [trimT, List.length_drop]; omega
theorem trimT_pen {t : Topic} (h : VT t) : (trimT t).Subs.flatMap (pen (trimT t)) = t.Subs.flatMap (pen t) := by
  obtain ⟨b1, b2, b3⟩ := minC_le t.Subs (t.First + t.Events.length) t.First (fun s hs => (h.sk s hs).2.1) (by omega)
  show t.Subs.flatMap (pen (trimT t)) = _
  rw [List.flatMap_def, List.flatMap_def]
  congr 1
  apply List.map_congr_left
  intro s hs
  unfold pen
  rw [trimT_end h]
  have c := b3 s hs
  have e : (trimT t).Events[(s.Cursor - (trimT t).First).toNat]? = t.Events[(s.Cursor - t.First).toNat]? := by
    simp only [trimT, List.getElem?_drop]
    congr 1; omega
  rw [e]
theorem trimT_idem {t : Topic} (h : VT t) : trimT (trimT t) = trimT t := by
  have e := trimT_end h
  have : minC ((trimT t).First + (trimT t).Events.length) (trimT t).Subs = (trimT t).First := by rw [e]; rfl
  have e2 : trimT (trimT t) = ⟨(trimT t).Name, minC ((trimT t).First + (trimT t).Events.length) (trimT t).Subs, (trimT t).Events.drop (minC ((trimT t).First + (trimT t).Events.length) (trimT t).Subs - (trimT t).First).toNat, (trimT t).Subs⟩ := rfl
  rw [e2, this, Int.sub_self]
  rfl
theorem trim_J4 (N : Nat) {t : Topic} (h : VT t) : law30_StreamsTrim_J4 N t.Name t.First t.Events t.Subs = some true := by
  have te : Topic.mk t.Name t.First t.Events t.Subs = t := rfl
  have hv : VT (trimT t) := trim_VT h
  have ht : streams_Trim N t = some (trimT t) := trim_eq N h
  have ht2 : streams_Trim N (trimT t) = some (trimT t) := (trim_eq N hv).trans (congrArg some (trimT_idem h))
  rw [law30_StreamsTrim_J4, te, ht]
  simp only [Option.bind_some, end_eq N hv, end_eq N h, trimT_end h, if_true, pending_eq N hv, pending_eq N h, trimT_pen h, dsame_eq, valid_eq, (VB_iff _).2 hv, law30_StreamsTrim_J1]
  have es : (trimT t).Subs = t.Subs := rfl
  rw [es]
  simp only [decide_true, Bool.not_true, Bool.false_eq_true, if_false, law30_StreamsTrim_J3, te, end_eq N h, Option.bind_some, trim_L2, law30_StreamsTrim_J2]
  rw [if_pos (show (trimT t).First = minC (t.First + ↑t.Events.length) t.Subs from rfl), ht2]
  simp only [Option.bind_some, same_eq]
theorem trim_L1' (N : Nat) : ∀ (xs : List actorgridlaw30_Act) (v : Nat) (t : Topic), (∀ x ∈ xs, 0 ≤ x.Who ∧ x.Who ≤ 255) → VT t →
    law30_StreamsTrim_L1 (law30_StreamsTrim_J4 N) N xs v (t.Name, t.First, t.Events, t.Subs, t.Name, t.First, t.Events, t.Subs) = some true
  | [], v, t, hw, h => trim_J4 N h
  | x :: xs, v, t, hw, h => by
    obtain ⟨t', h', e⟩ := play_good N h x (hw x (by simp))
    have te : Topic.mk t.Name t.First t.Events t.Subs = t := rfl
    rw [law30_StreamsTrim_L1, te, e]
    simp only [Option.bind_some, if_true]
    exact trim_L1' N xs (v + 1) t' (fun y hy => hw y (List.mem_cons_of_mem _ hy)) h'
theorem plain_StreamsTrim (ls : List actorgridlaw30_Act) (hw : ∀ x ∈ ls, 0 ≤ x.Who ∧ x.Who ≤ 255) : law30_StreamsTrim 3 ls = some true := by
  have haw : law30_awake 3 = some true := by decide +kernel
  rw [law30_StreamsTrim, haw]
  simp only [Option.bind_some, if_true]
  by_cases h2 : (150 : Int) < (ls.length : Int)
  · simp [h2]
  rw [if_neg h2, streams_New, validName_eq]
  have hn : nameB ⟨#[116]⟩ = true := by decide
  simp only [Option.bind_some, hn, if_true]
  exact trim_L1' 3 ls 0 ⟨⟨#[116]⟩, 0, [], []⟩ hw v00
end Go.Proofs.Ytpkfhjbgnpdgcaa
