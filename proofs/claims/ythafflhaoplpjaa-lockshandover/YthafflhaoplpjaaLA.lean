/- Plain facts on the models; no program in sight. -/
import Derived.Test.YthafflhaoplpjaaM
set_option linter.unusedSimpArgs false
set_option linter.unusedVariables false
namespace Go.Proofs.Ythafflhaoplpjaa
open Go Go.Proofs Go.Abs
theorem w64 {n : Int} (h1 : -9223372036854775808 ≤ n) (h2 : n ≤ 9223372036854775807) : IntKind.i64.wrap n = n := wrap64_in h1 h2
theorem bl_irrefl : ∀ x : List UInt8, Op.bytesLess x x = false
  | [] => rfl
  | a :: x => by simp [Op.bytesLess, bl_irrefl x]
theorem bl_trans : ∀ {x y z : List UInt8}, Op.bytesLess x y = true → Op.bytesLess y z = true → Op.bytesLess x z = true
  | _, [], _, h1, h2 => by simp [Op.bytesLess] at h1
  | _, _ :: _, [], h1, h2 => by simp [Op.bytesLess] at h2
  | [], _ :: _, _ :: _, h1, h2 => rfl
  | a :: x, b :: y, c :: z, h1, h2 => by
    simp only [Op.bytesLess, Bool.or_eq_true, decide_eq_true_eq, Bool.and_eq_true, beq_iff_eq] at h1 h2 ⊢
    rcases h1 with h1 | ⟨rfl, h1⟩
    · rcases h2 with h2 | ⟨rfl, h2⟩
      · exact .inl (UInt8.lt_trans h1 h2)
      · exact .inl h1
    · rcases h2 with h2 | ⟨rfl, h2⟩
      · exact .inl h2
      · exact .inr ⟨rfl, bl_trans h1 h2⟩
theorem bl_tri : ∀ x y : List UInt8, Op.bytesLess x y = true ∨ x = y ∨ Op.bytesLess y x = true
  | [], [] => .inr (.inl rfl)
  | [], _ :: _ => .inl rfl
  | _ :: _, [] => .inr (.inr rfl)
  | a :: x, b :: y => by
    simp only [Op.bytesLess, Bool.or_eq_true, decide_eq_true_eq, Bool.and_eq_true, beq_iff_eq]
    rcases UInt8.lt_or_lt_of_ne (a := a) (b := b) |> fun h => (Classical.em (a = b)).imp id h with rfl | h | h
    · rcases bl_tri x y with h | rfl | h
      · exact .inl (.inr ⟨rfl, h⟩)
      · exact .inr (.inl rfl)
      · exact .inr (.inr (.inr ⟨rfl, h⟩))
    · exact .inl (.inl h)
    · exact .inr (.inr (.inl h))
theorem sEq_iff {a b : ByteArray} : sEq a b = true ↔ a = b := by
  unfold sEq
  rw [beq_iff_eq, ByteArray.toList_eq, ByteArray.toList_eq]
  obtain ⟨⟨x⟩⟩ := a
  obtain ⟨⟨y⟩⟩ := b
  simp
theorem toList_inj {a b : ByteArray} (h : a.toList = b.toList) : a = b := sEq_iff.1 (by simpa [sEq] using h)
theorem sLt_irrefl (a : ByteArray) : sLt a a = false := bl_irrefl _
theorem sLt_trans {a b c : ByteArray} (h1 : sLt a b = true) (h2 : sLt b c = true) : sLt a c = true := bl_trans h1 h2
theorem sLt_tri (a b : ByteArray) : sLt a b = true ∨ a = b ∨ sLt b a = true := by
  rcases bl_tri a.toList b.toList with h | h | h
  · exact .inl h
  · exact .inr (.inl (toList_inj h))
  · exact .inr (.inr h)
def cmpS (a b : ByteArray) : Int := if sLt a b = true then -1 else if sEq a b = true then 0 else 1
theorem cmp_eq (N : Nat) (a b : ByteArray) : cmp_Compare_string N a b = some (cmpS a b) := by
  have n1 : sEq a a = true := sEq_iff.2 rfl
  have n2 : sEq b b = true := sEq_iff.2 rfl
  simp only [cmp_Compare_string, cmp_isNaN_string, n1, n2, Option.bind_some, cmpS]
  cases sLt a b <;> cases sEq a b <;> rfl
theorem cmpS_zero {a b : ByteArray} : cmpS a b = 0 ↔ a = b := by
  unfold cmpS
  constructor
  · intro h
    split at h
    · omega
    · split at h
      · rename_i e; exact sEq_iff.1 e
      · omega
  · rintro rfl
    simp [sLt_irrefl, sEq_iff.2 rfl]
theorem cmpS_neg {a b : ByteArray} : cmpS a b < 0 ↔ sLt a b = true := by
  unfold cmpS
  split
  · simp [*]
  · split <;> simp [*]
end Go.Proofs.Ythafflhaoplpjaa

set_option linter.unusedSimpArgs false
set_option linter.unusedVariables false
namespace Go.Proofs.Ythafflhaoplpjaa
open Go Go.Proofs Go.Abs
def rl (a b : Ref) : Bool := sLt a.Type_ b.Type_ || (sEq a.Type_ b.Type_ && sLt a.Key b.Key)
theorem rl_iff {a b : Ref} : rl a b = true ↔ sLt a.Type_ b.Type_ = true ∨ (a.Type_ = b.Type_ ∧ sLt a.Key b.Key = true) := by
  simp [rl, sEq_iff]
theorem rl_irrefl (a : Ref) : rl a a = false := by
  simp [rl, sLt_irrefl]
theorem rl_trans {a b c : Ref} (h1 : rl a b = true) (h2 : rl b c = true) : rl a c = true := by
  rw [rl_iff] at *
  rcases h1 with h1 | ⟨e1, h1⟩
  · rcases h2 with h2 | ⟨e2, h2⟩
    · exact .inl (sLt_trans h1 h2)
    · exact .inl (e2 ▸ h1)
  · rcases h2 with h2 | ⟨e2, h2⟩
    · exact .inl (e1 ▸ h2)
    · exact .inr ⟨e1.trans e2, sLt_trans h1 h2⟩
theorem ref_ext {a b : Ref} (h1 : a.Type_ = b.Type_) (h2 : a.Key = b.Key) : a = b := by
  cases a; cases b; simp only at h1 h2; rw [h1, h2]
theorem rl_tri (a b : Ref) : rl a b = true ∨ a = b ∨ rl b a = true := by
  simp only [rl_iff]
  rcases sLt_tri a.Type_ b.Type_ with h | h | h
  · exact .inl (.inl h)
  · rcases sLt_tri a.Key b.Key with q | q | q
    · exact .inl (.inr ⟨h, q⟩)
    · exact .inr (.inl (ref_ext h q))
    · exact .inr (.inr (.inr ⟨h.symm, q⟩))
  · exact .inr (.inr (.inl h))
def cmpR (a b : Ref) : Int := if cmpS a.Type_ b.Type_ = 0 then cmpS a.Key b.Key else cmpS a.Type_ b.Type_
theorem cmpR_eq (N : Nat) (a b : Ref) : locks_compare N a b = some (cmpR a b) := by
  simp only [locks_compare, cmp_eq, Option.bind_some, cmp_Or_int, cmp_Or_int_L1, cmpR]
  by_cases h1 : cmpS a.Type_ b.Type_ = 0
  · by_cases h2 : cmpS a.Key b.Key = 0 <;> simp [h1, h2]
  · simp [h1]
theorem cmpR_neg {a b : Ref} : cmpR a b < 0 ↔ rl a b = true := by
  unfold cmpR
  rw [rl_iff]
  by_cases h1 : cmpS a.Type_ b.Type_ = 0
  · rw [if_pos h1, cmpS_neg]
    have e := cmpS_zero.1 h1
    simp [e, sLt_irrefl]
  · rw [if_neg h1, cmpS_neg]
    have e : ¬ a.Type_ = b.Type_ := fun q => h1 (cmpS_zero.2 q)
    simp [e]
theorem cmpR_zero {a b : Ref} : cmpR a b = 0 ↔ a = b := by
  unfold cmpR
  by_cases h1 : cmpS a.Type_ b.Type_ = 0
  · rw [if_pos h1, cmpS_zero]
    have e := cmpS_zero.1 h1
    exact ⟨fun h => ref_ext e h, fun h => by rw [h]⟩
  · rw [if_neg h1]
    exact ⟨fun h => absurd h h1, fun h => by rw [h] at h1; exact absurd (cmpS_zero.2 rfl) h1⟩
structure VA (a : Ref) : Prop where
  t1 : 1 ≤ a.Type_.size
  t2 : a.Type_.size ≤ 32
  k : a.Key.size ≤ 32
structure VL (x : Lock) : Prop where
  a : VA x.Actor
  o1 : 1 ≤ x.Owner
  o2 : x.Owner ≤ 1099511627776
  wl : x.Waiters.length ≤ 32
  w : ∀ n ∈ x.Waiters, 1 ≤ n ∧ n < x.Owner
  so : x.Waiters.Pairwise (· < ·)
structure VT (t : List Lock) : Prop where
  len : t.length ≤ 128
  l : ∀ x ∈ t, VL x
  so : t.Pairwise fun a b => rl a.Actor b.Actor = true
theorem actor_ok (N : Nat) {a : Ref} (h : VA a) : locks_validActor N a = some true := by
  have := h.t1; have := h.t2; have := h.k
  simp only [locks_validActor]
  rw [if_pos (by omega), if_pos (by omega)]
  simp; omega
theorem txn_ok (N : Nat) {n : Int} (h1 : 1 ≤ n) (h2 : n ≤ 1099511627776) : locks_validTxn N n = some true := by
  simp [locks_validTxn, h1, h2]
theorem drop_at {α : Type} {l xs : List α} {v : Nat} {x : α} (hd : l.drop v = x :: xs) : v < l.length ∧ l[v]? = some x ∧ l.drop (v + 1) = xs := by
  have hvl : v < l.length := by
    rcases Nat.lt_or_ge v l.length with h | h
    · exact h
    · rw [List.drop_eq_nil_of_le h] at hd; simp at hd
  rw [List.drop_eq_getElem_cons hvl] at hd
  simp only [List.cons.injEq] at hd
  exact ⟨hvl, by rw [List.getElem?_eq_getElem hvl, hd.1], hd.2⟩
theorem so_prev {α : Type} {R : α → α → Prop} {l : List α} (hs : l.Pairwise R) {v : Nat} {x : α} (hv : 0 < v) (hx : l[v]? = some x) : ∃ y, l[v - 1]? = some y ∧ R y x := by
  have hvl := (List.getElem?_eq_some_iff.1 hx).1
  have hxe := (List.getElem?_eq_some_iff.1 hx).2
  refine ⟨_, List.getElem?_eq_getElem (by omega), ?_⟩
  have := List.pairwise_iff_getElem.1 hs (v - 1) v (by omega) hvl (by omega)
  rwa [hxe] at this
theorem lock_L1 {x : Lock} (h : VL x) : ∀ (xs : List Int) (v : Nat), x.Waiters.drop v = xs → locks_validLock_L1 x xs v () = some true
  | [], v, _ => rfl
  | n :: xs, v, hd => by
    obtain ⟨hvl, hx, hd'⟩ := drop_at hd
    have hn := h.w n (List.mem_of_getElem? hx)
    have hl := h.wl
    have ih := lock_L1 h xs (v + 1) hd'
    rw [locks_validLock_L1, if_neg (by omega), if_neg (by omega)]
    by_cases h0 : 0 < v
    · obtain ⟨y, hy, hlt⟩ := so_prev h.so h0 hx
      rw [if_pos (by omega), w64 (by omega) (by omega), show ((v : Int) - 1) = ((v - 1 : Nat) : Int) by omega, gx_nat hy]
      have : ¬ n ≤ y := by omega
      simp [this, locks_validLock_J2, ih]
    · rw [if_neg (by omega)]
      simp [locks_validLock_J2, ih]
theorem lock_ok (N : Nat) {x : Lock} (h : VL x) : locks_validLock N x = some true := by
  have hl := h.wl
  have : ¬ (32 : Int) < (x.Waiters.length : Int) := by omega
  simp [locks_validLock, actor_ok N h.a, txn_ok N h.o1 h.o2, this, locks_validLock_J1, locks_validLock_J3, lock_L1 h x.Waiters 0 rfl]
theorem valid_L1 (N : Nat) {t : List Lock} (h : VT t) : ∀ (xs : List Lock) (v : Nat), t.drop v = xs → locks_Valid_L1 N t xs v () = some true
  | [], v, _ => rfl
  | x :: xs, v, hd => by
    obtain ⟨hvl, hx, hd'⟩ := drop_at hd
    have hl := h.len
    have ih := valid_L1 N h xs (v + 1) hd'
    rw [locks_Valid_L1, lock_ok N (h.l x (List.mem_of_getElem? hx)), Option.bind_some, if_pos rfl]
    by_cases h0 : 0 < v
    · obtain ⟨y, hy, hlt⟩ := so_prev h.so h0 hx
      rw [if_pos (by omega), w64 (by omega) (by omega), show ((v : Int) - 1) = ((v - 1 : Nat) : Int) by omega, gx_nat hy, cmpR_eq, Option.bind_some]
      have := cmpR_neg.2 hlt
      have : ¬ 0 ≤ cmpR y.Actor x.Actor := by omega
      simp [this, locks_Valid_J1, ih]
    · rw [if_neg (by omega)]
      simp [locks_Valid_J1, ih]
theorem valid_ok (N : Nat) {t : List Lock} (h : VT t) : locks_Valid N t = some true := by
  have := h.len
  rw [locks_Valid, if_neg (by omega)]
  exact valid_L1 N h t 0 rfl
section
variable {α : Type} {p : α → Bool}
def plc (p : α → Bool) (t : List α) : Nat := (t.takeWhile p).length
theorem plc_le (t : List α) : plc p t ≤ t.length := (List.takeWhile_sublist p).length_le
def Mono (p : α → Bool) (t : List α) : Prop := t.Pairwise fun a b => p b = true → p a = true
theorem plc_lt : ∀ {t : List α}, Mono p t → ∀ {i : Nat} {r : α}, t[i]? = some r → (p r = true ↔ i < plc p t)
  | [], hp, i, r, hr => by simp at hr
  | x :: xs, hp, i, r, hr => by
    have hp' := List.pairwise_cons.1 hp
    by_cases h : p x = true
    · have e : plc p (x :: xs) = plc p xs + 1 := by simp [plc, List.takeWhile_cons, h]
      rw [e]
      cases i with
      | zero => simp only [List.getElem?_cons_zero, Option.some.injEq] at hr; subst hr; simp [h]
      | succ i =>
        rw [List.getElem?_cons_succ] at hr
        rw [plc_lt (t := xs) hp'.2 hr]; omega
    · have e : plc p (x :: xs) = 0 := by simp [plc, List.takeWhile_cons, h]
      rw [e]
      constructor
      · intro hlt
        exfalso
        cases i with
        | zero => simp only [List.getElem?_cons_zero, Option.some.injEq] at hr; subst hr; exact h hlt
        | succ i =>
          rw [List.getElem?_cons_succ] at hr
          exact h (hp'.1 r (List.mem_of_getElem? hr) hlt)
      · omega
end
theorem mid_eq {i j : Nat} (h : i + j ≤ 1000000) : IntKind.i64.wrap (shrI .u64 (IntKind.u64.wrap (IntKind.i64.wrap ((i : Int) + (j : Int)))) 1) = (((i + j) / 2 : Nat) : Int) := by
  rw [w64 (n := (i : Int) + (j : Int)) (by omega) (by omega)]
  have e : IntKind.u64.wrap ((i : Int) + (j : Int)) = (i : Int) + (j : Int) := wrap_in ⟨by show (0 : Int) ≤ _; omega, by show _ ≤ (18446744073709551615 : Int); omega⟩
  rw [e]
  have e2 : shrI .u64 ((i : Int) + (j : Int)) 1 = (((i + j) / 2 : Nat) : Int) := by
    show ((i : Int) + (j : Int)).fdiv 2 = _
    rw [Int.fdiv_eq_ediv_of_nonneg _ (by omega)]
    omega
  rw [e2, w64 (by omega) (by omega)]
def pa (t : List Lock) (a : Ref) : Nat := plc (fun x => rl x.Actor a) t
def eqA (a b : Ref) : Bool := sEq a.Type_ b.Type_ && sEq a.Key b.Key
theorem eqA_iff {a b : Ref} : eqA a b = true ↔ a = b := by
  simp only [eqA, Bool.and_eq_true, sEq_iff]
  exact ⟨fun q => ref_ext q.1 q.2, fun q => by rw [q]; exact ⟨rfl, rfl⟩⟩
def hasA (t : List Lock) (a : Ref) : Bool := match t[pa t a]? with
  | some x => eqA x.Actor a
  | none => false
theorem monoA {t : List Lock} (hs : t.Pairwise fun a b => rl a.Actor b.Actor = true) (a : Ref) : Mono (fun x : Lock => rl x.Actor a) t := hs.imp (fun h1 h2 => rl_trans h1 h2)
theorem bsF_L1 {t : List Lock} (h : VT t) (N : Nat) (a : Ref) (kx : Int → Option (Int × Bool)) :
    ∀ (n i j : Nat), j < i + n → i ≤ pa t a → pa t a ≤ j → j ≤ t.length → slices_BinarySearchFunc_Ref_locks_find_1_L1 t N a kx n ((i : Int), (j : Int)) = kx ((pa t a : Nat) : Int)
  | 0, i, j, h1, h2, h3, h4 => by omega
  | n + 1, i, j, h1, h2, h3, h4 => by
    have hl := h.len
    rw [slices_BinarySearchFunc_Ref_locks_find_1_L1]
    by_cases hij : i < j
    · rw [if_pos (by omega), mid_eq (by omega)]
      have hm : (i + j) / 2 < t.length := by omega
      have hx : t[(i + j) / 2]? = some t[(i + j) / 2] := List.getElem?_eq_getElem hm
      have hc := plc_lt (monoA h.so a) hx
      rw [gx_nat hx, locks_find_1, cmpR_eq]
      simp only [Option.bind_some, cmpR_neg]
      by_cases hs : rl t[(i + j) / 2].Actor a = true
      · rw [if_pos hs, w64 (by omega) (by omega)]
        have : (i + j) / 2 < pa t a := hc.1 hs
        exact bsF_L1 h N a kx n ((i + j) / 2 + 1) j (by omega) (by omega) h3 h4
      · rw [if_neg hs]
        have : ¬ (i + j) / 2 < pa t a := fun q => hs (hc.2 q)
        exact bsF_L1 h N a kx n i ((i + j) / 2) (by omega) h2 (by omega) (by omega)
    · rw [if_neg (by omega)]
      have : i = pa t a := by omega
      rw [this]
theorem find_eq (N : Nat) (hN : 200 ≤ N) {t : List Lock} (h : VT t) (a : Ref) : locks_find N t a = some (((pa t a : Nat) : Int), hasA t a) := by
  have hl := h.len
  have hp : pa t a ≤ t.length := plc_le t
  have := bsF_L1 h N a (slices_BinarySearchFunc_Ref_locks_find_1_J1 t N a) N 0 t.length (by omega) (by omega) hp (by omega)
  simp only [locks_find, slices_BinarySearchFunc_Ref_locks_find_1]
  rw [show ((0 : Int)) = ((0 : Nat) : Int) from rfl, this]
  unfold slices_BinarySearchFunc_Ref_locks_find_1_J1 hasA
  cases hq : t[pa t a]? with
  | none =>
    have := List.getElem?_eq_none_iff.1 hq
    rw [if_neg (by omega)]; rfl
  | some s =>
    have := (List.getElem?_eq_some_iff.1 hq).1
    rw [if_pos (by omega), gx_nat hq, locks_find_1, cmpR_eq]
    have e : decide (cmpR s.Actor a = 0) = eqA s.Actor a := by rw [Bool.eq_iff_iff, decide_eq_true_eq, cmpR_zero, eqA_iff]
    simp [e]
theorem hasA_some {t : List Lock} {a : Ref} (h : hasA t a = true) : ∃ x, t[pa t a]? = some x ∧ x.Actor = a := by
  unfold hasA at h
  split at h
  · rename_i s hs; exact ⟨s, hs, eqA_iff.1 h⟩
  · cases h
theorem hasA_mem {t : List Lock} (hp : t.Pairwise fun a b => rl a.Actor b.Actor = true) {i : Nat} {x : Lock} (hi : t[i]? = some x) : pa t x.Actor = i ∧ hasA t x.Actor = true := by
  have h1 := plc_lt (monoA hp x.Actor) hi
  simp only [rl_irrefl] at h1
  have hle : pa t x.Actor ≤ i := by
    rcases Nat.lt_or_ge i (pa t x.Actor) with h | h
    · exact absurd (h1.2 h) (by simp)
    · exact h
  have hil := (List.getElem?_eq_some_iff.1 hi).1
  have hie := (List.getElem?_eq_some_iff.1 hi).2
  have hpl : pa t x.Actor < t.length := by omega
  have e : pa t x.Actor = i := by
    rcases Nat.lt_or_ge (pa t x.Actor) i with h | h
    · exfalso
      have h2 := plc_lt (monoA hp x.Actor) (List.getElem?_eq_getElem hpl)
      have h3 := List.pairwise_iff_getElem.1 hp _ i hpl hil h
      rw [hie] at h3
      have : pa t x.Actor < pa t x.Actor := h2.1 h3
      omega
    · omega
  refine ⟨e, ?_⟩
  unfold hasA
  rw [e, hi]
  exact eqA_iff.2 rfl
end Go.Proofs.Ythafflhaoplpjaa

set_option linter.unusedSimpArgs false
set_option linter.unusedVariables false
namespace Go.Proofs.Ythafflhaoplpjaa
open Go Go.Proofs Go.Abs
theorem set_self {α : Type} {l : List α} {v : Nat} {x : α} (h : l[v]? = some x) : l.set v x = l := by
  apply List.ext_getElem?
  intro i
  rw [List.getElem?_set]
  by_cases e : v = i
  · subst e
    have hlt := (List.getElem?_eq_some_iff.1 h).1
    simp [hlt, ← h]
  · simp [e]
theorem clone_L1 (N : Nat) {t : List Lock} (h : VT t) : ∀ (m v : Nat), v + m = t.length → locks_clone_L1 N m v t = some t
  | 0, v, hv => by rw [locks_clone_L1, lenG_ok (by omega)]
  | m + 1, v, hv => by
    have hx : t[v]? = some t[v] := List.getElem?_eq_getElem (by omega)
    have hw := (h.l _ (List.mem_of_getElem? hx)).wl
    rw [locks_clone_L1, gx_nat hx, slices_Clone_int, apn_ok (by omega), Option.bind_some]
    rw [set_self (x := t[v]) hx]
    exact clone_L1 N h m (v + 1) (by omega)
theorem clone_eq (N : Nat) {t : List Lock} (h : VT t) : locks_clone N t = some t := by
  have := h.len
  rw [locks_clone, slices_Clone_Lock, apn_ok (by omega), Option.bind_some]
  exact clone_L1 N h _ 0 (by omega)
def pz (w : List Int) (n : Int) : Nat := plc (fun x => decide (x < n)) w
theorem monoZ {w : List Int} (hs : w.Pairwise (· < ·)) (n : Int) : Mono (fun x : Int => decide (x < n)) w := hs.imp (fun h1 h2 => by simp only [decide_eq_true_eq] at *; omega)
theorem pz_lt {w : List Int} (hs : w.Pairwise (· < ·)) {n : Int} {i : Nat} {x : Int} (hx : w[i]? = some x) : x < n ↔ i < pz w n := by
  have := plc_lt (monoZ hs n) hx
  simpa [pz] using this
theorem pz_le (w : List Int) (n : Int) : pz w n ≤ w.length := plc_le w
theorem less_int (N : Nat) (a b : Int) : cmp_Less_int N a b = some (decide (a < b)) := by
  simp [cmp_Less_int, cmp_isNaN_int]
theorem pz_mem {w : List Int} (hs : w.Pairwise (· < ·)) {n : Int} : n ∈ w ↔ w[pz w n]? = some n := by
  constructor
  · intro h
    obtain ⟨i, hi⟩ := List.mem_iff_getElem?.1 h
    have h1 := pz_lt hs hi (n := n)
    have hle : pz w n ≤ i := by omega
    have hil := (List.getElem?_eq_some_iff.1 hi).1
    have hpl : pz w n < w.length := by omega
    rcases Nat.lt_or_ge (pz w n) i with q | q
    · exfalso
      have h2 := pz_lt hs (List.getElem?_eq_getElem hpl) (n := n)
      have h3 := List.pairwise_iff_getElem.1 hs _ i hpl hil q
      have h4 : w[i] = n := (List.getElem?_eq_some_iff.1 hi).2
      omega
    · have : pz w n = i := by omega
      rw [this]; exact hi
  · exact List.mem_of_getElem?
theorem bsI_L1 {w : List Int} (hl : w.length ≤ 32) (hs : w.Pairwise (· < ·)) (N : Nat) (a : Int) (kx : Int → Option (Int × Bool)) :
    ∀ (n i j : Nat), j < i + n → i ≤ pz w a → pz w a ≤ j → j ≤ w.length → slices_BinarySearch_int_L1 w N a kx n ((i : Int), (j : Int)) = kx ((pz w a : Nat) : Int)
  | 0, i, j, h1, h2, h3, h4 => by omega
  | n + 1, i, j, h1, h2, h3, h4 => by
    rw [slices_BinarySearch_int_L1]
    by_cases hij : i < j
    · rw [if_pos (by omega), mid_eq (by omega)]
      have hm : (i + j) / 2 < w.length := by omega
      have hx : w[(i + j) / 2]? = some w[(i + j) / 2] := List.getElem?_eq_getElem hm
      have hc := pz_lt hs hx (n := a)
      rw [gx_nat hx, less_int]
      simp only [Option.bind_some, decide_eq_true_eq]
      by_cases hlt : w[(i + j) / 2] < a
      · rw [if_pos hlt, w64 (by omega) (by omega)]
        have : (i + j) / 2 < pz w a := hc.1 hlt
        exact bsI_L1 hl hs N a kx n ((i + j) / 2 + 1) j (by omega) (by omega) h3 h4
      · rw [if_neg hlt]
        have : ¬ (i + j) / 2 < pz w a := fun q => hlt (hc.2 q)
        exact bsI_L1 hl hs N a kx n i ((i + j) / 2) (by omega) h2 (by omega) (by omega)
    · rw [if_neg (by omega)]
      have : i = pz w a := by omega
      rw [this]
theorem bsI_eq (N : Nat) (hN : 200 ≤ N) {w : List Int} (hl : w.length ≤ 32) (hs : w.Pairwise (· < ·)) (a : Int) : slices_BinarySearch_int N w a = some (((pz w a : Nat) : Int), decide (a ∈ w)) := by
  have hp := pz_le w a
  have := bsI_L1 hl hs N a (slices_BinarySearch_int_J1 w a N) N 0 w.length (by omega) (by omega) hp (by omega)
  simp only [slices_BinarySearch_int]
  rw [show ((0 : Int)) = ((0 : Nat) : Int) from rfl, this]
  unfold slices_BinarySearch_int_J1
  have hm := pz_mem hs (n := a)
  cases hq : w[pz w a]? with
  | none =>
    have := List.getElem?_eq_none_iff.1 hq
    rw [if_neg (by omega)]
    rw [hq] at hm
    have : a ∉ w := fun q => by simpa using hm.1 q
    simp [this]
  | some s =>
    have := (List.getElem?_eq_some_iff.1 hq).1
    rw [if_pos (by omega), gx_nat hq]
    rw [hq] at hm
    by_cases e : s = a
    · subst e
      have : s ∈ w := hm.2 rfl
      simp [this]
    · have : a ∉ w := fun q => e (Option.some.inj (hm.1 q))
      simp [e, this, slices_isNaN_int]
def insW (w : List Int) (n : Int) : List Int := w.take (pz w n) ++ [n] ++ w.drop (pz w n)
theorem insW_mem {w : List Int} {n z : Int} : z ∈ insW w n ↔ z = n ∨ z ∈ w := by
  unfold insW
  have : z ∈ w ↔ z ∈ w.take (pz w n) ∨ z ∈ w.drop (pz w n) := by rw [← List.mem_append, List.take_append_drop]
  rw [this]
  simp only [List.mem_append, List.mem_singleton]
  constructor
  · rintro ((h | h) | h) <;> simp [h]
  · rintro (h | h | h) <;> simp [h]
theorem insW_len {w : List Int} {n : Int} : (insW w n).length = w.length + 1 := by
  have := pz_le w n
  simp [insW]; omega
theorem insW_so {w : List Int} (hs : w.Pairwise (· < ·)) {n : Int} (hn : n ∉ w) : (insW w n).Pairwise (· < ·) := by
  unfold insW
  have hp := pz_le w n
  have h1 : ∀ z ∈ w.take (pz w n), z < n := by
    intro z hz
    obtain ⟨i, hi⟩ := List.mem_iff_getElem?.1 hz
    have hil := (List.getElem?_eq_some_iff.1 hi).1
    rw [List.length_take] at hil
    rw [List.getElem?_take_of_lt (by omega)] at hi
    exact (pz_lt hs hi).2 (by omega)
  have h2 : ∀ z ∈ w.drop (pz w n), n < z := by
    intro z hz
    obtain ⟨i, hi⟩ := List.mem_iff_getElem?.1 hz
    rw [List.getElem?_drop] at hi
    have := pz_lt hs hi (n := n)
    have hne : z ≠ n := fun q => hn (q ▸ List.mem_of_getElem? hi)
    omega
  rw [List.append_assoc, List.pairwise_append]
  refine ⟨hs.sublist (List.take_sublist _ _), ?_, fun a ha b hb => ?_⟩
  · rw [List.singleton_append, List.pairwise_cons]
    exact ⟨fun b hb => h2 b hb, hs.sublist (List.drop_sublist _ _)⟩
  · have := h1 a ha
    rcases List.mem_append.1 hb with hb | hb
    · rw [List.mem_singleton] at hb; omega
    · have := h2 b hb; omega
def acq (t : List Lock) (a : Ref) (n : Int) : List Lock × Int × Int :=
  if hasA t a = true then
    match t[pa t a]? with
    | some x => if x.Owner = n then (t, 1, 0) else if x.Owner < n then (t, 3, 0) else if n ∈ x.Waiters then (t, 2, 0) else if x.Waiters.length = 32 then ([], 0, 5) else (t.set (pa t a) ⟨x.Actor, x.Owner, insW x.Waiters n⟩, 2, 0)
    | none => ([], 0, 0)
  else if t.length = 128 then ([], 0, 5) else (t.take (pa t a) ++ [⟨a, n, []⟩] ++ t.drop (pa t a), 1, 0)
theorem pa_le (t : List Lock) (a : Ref) : pa t a ≤ t.length := plc_le t
theorem acq_eq (N : Nat) (hN : 200 ≤ N) {t : List Lock} (h : VT t) {a : Ref} (ha : VA a) {n : Int} (n1 : 1 ≤ n) (n2 : n ≤ 1099511627776) : locks_Acquire N t a n = some (acq t a n) := by
  have hl := h.len
  have hp := pa_le t a
  simp only [locks_Acquire, valid_ok N h, actor_ok N ha, txn_ok N n1 n2, Option.bind_some, if_true, Bool.not_true, locks_Acquire_J1, Bool.false_eq_true, if_false, locks_Acquire_J2, find_eq N hN h]
  unfold acq
  by_cases hh : hasA t a = true
  · obtain ⟨x, hx, hxa⟩ := hasA_some hh
    have hv := h.l x (List.mem_of_getElem? hx)
    have hw := hv.wl
    rw [if_pos hh, if_pos hh, gx_nat hx, bsI_eq N hN hv.wl hv.so, hx]
    simp only [Option.bind_some, clone_eq N h]
    by_cases e1 : x.Owner = n
    · simp [e1]
    · by_cases e2 : x.Owner < n
      · simp [e1, e2]
      · by_cases e3 : n ∈ x.Waiters
        · simp [e1, e2, e3]
        · by_cases e4 : x.Waiters.length = 32
          · simp [e1, e2, e3, e4]
          · have e4' : ¬ ((x.Waiters.length : Nat) : Int) = 32 := by omega
            have hpz := pz_le x.Waiters n
            simp only [e1, e2, e3, e4, e4', if_false, decide_false, Bool.false_eq_true, gx_nat hx]
            unfold slices_Insert_int insM
            rw [if_pos ⟨by omega, by omega, rfl, by omega⟩]
            simp [insW]
  · rw [if_neg hh, if_neg hh]
    by_cases e : t.length = 128
    · rw [if_pos (by omega), if_pos e]
    · rw [if_neg (by omega), if_neg e, clone_eq N h, Option.bind_some]
      unfold slices_Insert_Lock insM
      rw [if_pos ⟨by omega, by omega, rfl, by omega⟩]
      simp
theorem pairwise_set {α β : Type} {R : β → β → Prop} {f : α → β} {l : List α} (h : l.Pairwise fun a b => R (f a) (f b)) {i : Nat} {x y : α} (hx : l[i]? = some x) (he : f y = f x) : (l.set i y).Pairwise fun a b => R (f a) (f b) := by
  rw [List.pairwise_iff_getElem] at *
  intro j k hj hk hjk
  rw [List.length_set] at hj hk
  have hxi : l[i]'((List.getElem?_eq_some_iff.1 hx).1) = x := (List.getElem?_eq_some_iff.1 hx).2
  have key : ∀ j (hj : j < l.length), f ((l.set i y)[j]'(by rw [List.length_set]; exact hj)) = f l[j] := by
    intro j hj
    rw [List.getElem_set]
    split
    · rename_i e; subst e; rw [he, hxi]
    · rfl
  rw [key j hj, key k hk]
  exact h j k hj hk hjk
theorem VT.set {t : List Lock} (h : VT t) {i : Nat} {x y : Lock} (hx : t[i]? = some x) (he : y.Actor = x.Actor) (hy : VL y) : VT (t.set i y) := by
  refine ⟨by rw [List.length_set]; exact h.len, fun z hz => ?_, pairwise_set (f := Lock.Actor) (R := fun a b => rl a b = true) h.so hx he⟩
  rcases List.mem_or_eq_of_mem_set hz with hz | rfl
  · exact h.l z hz
  · exact hy
theorem insA_so {t : List Lock} (hs : t.Pairwise fun a b => rl a.Actor b.Actor = true) {a : Ref} (hh : ¬ hasA t a = true) (x : Lock) (hx : x.Actor = a) : (t.take (pa t a) ++ [x] ++ t.drop (pa t a)).Pairwise fun a b => rl a.Actor b.Actor = true := by
  have h1 : ∀ z ∈ t.take (pa t a), rl z.Actor a = true := by
    intro z hz
    obtain ⟨i, hi⟩ := List.mem_iff_getElem?.1 hz
    have hil := (List.getElem?_eq_some_iff.1 hi).1
    rw [List.length_take] at hil
    rw [List.getElem?_take_of_lt (by omega)] at hi
    exact (plc_lt (monoA hs a) hi).2 (by show i < pa t a; omega)
  have h2 : ∀ z ∈ t.drop (pa t a), rl a z.Actor = true := by
    intro z hz
    obtain ⟨i, hi⟩ := List.mem_iff_getElem?.1 hz
    rw [List.getElem?_drop] at hi
    have hc := plc_lt (monoA hs a) hi
    rcases rl_tri z.Actor a with q | q | q
    · have : pa t a + i < pa t a := hc.1 q
      omega
    · exact absurd (q ▸ (hasA_mem hs hi).2) hh
    · exact q
  rw [List.append_assoc, List.pairwise_append]
  refine ⟨hs.sublist (List.take_sublist _ _), ?_, fun y hy z hz => ?_⟩
  · rw [List.singleton_append, List.pairwise_cons]
    exact ⟨fun b hb => hx ▸ h2 b hb, hs.sublist (List.drop_sublist _ _)⟩
  · have := h1 y hy
    rcases List.mem_append.1 hz with hz | hz
    · rw [List.mem_singleton] at hz; rw [hz, hx]; exact this
    · exact rl_trans this (h2 z hz)
theorem acq_vt {t : List Lock} (h : VT t) {a : Ref} (ha : VA a) {n : Int} (n1 : 1 ≤ n) (n2 : n ≤ 1099511627776) : VT (acq t a n).1 := by
  have nil : VT [] := ⟨by simp, by simp, List.Pairwise.nil⟩
  have hl := h.len
  have hp := pa_le t a
  unfold acq
  split
  · rename_i hh
    obtain ⟨x, hx, hxa⟩ := hasA_some hh
    have hv := h.l x (List.mem_of_getElem? hx)
    have hw := hv.wl
    rw [hx]
    dsimp only
    split
    · exact h
    split
    · exact h
    split
    · exact h
    split
    · exact nil
    rename_i e1 e2 e3 e4
    exact h.set hx rfl ⟨hv.a, hv.o1, hv.o2, by rw [insW_len]; show x.Waiters.length + 1 ≤ 32; omega, fun z hz => by
      rcases insW_mem.1 hz with rfl | hz
      · exact ⟨n1, by show z < x.Owner; omega⟩
      · exact hv.w z hz, insW_so hv.so e3⟩
  · rename_i hh
    split
    · exact nil
    · rename_i e
      refine ⟨by simp; omega, fun z hz => ?_, insA_so h.so hh ⟨a, n, []⟩ rfl⟩
      simp only [List.mem_append, List.mem_singleton] at hz
      rcases hz with (hz | rfl) | hz
      · exact h.l z (List.mem_of_mem_take hz)
      · exact ⟨ha, n1, n2, by simp, by simp, List.Pairwise.nil⟩
      · exact h.l z (List.mem_of_mem_drop hz)
end Go.Proofs.Ythafflhaoplpjaa

set_option linter.unusedSimpArgs false
set_option linter.unusedVariables false
namespace Go.Proofs.Ythafflhaoplpjaa
open Go Go.Proofs Go.Abs
theorem take_set_succ {α : Type} {l : List α} {k : Nat} {x : α} (h : k < l.length) : (l.set k x).take (k + 1) = l.take k ++ [x] := by
  rw [List.take_add_one, List.getElem?_set]
  simp only [if_true, h, Option.toList_some]
  rw [List.take_set_of_le (Nat.le_refl k)]
theorem nb1_eq (N : Nat) (x id : Int) : locks_Withdraw_1 N x id = some (decide (x = id)) := rfl
theorem index_L1 (N : Nat) (id : Int) : ∀ (xs : List Int) (v : Nat), (id ∉ xs ∧ slices_IndexFunc_int_locks_Withdraw_1_L1 N id xs v () = some (-1)) ∨ ∃ i, xs[i]? = some id ∧ id ∉ xs.take i ∧ slices_IndexFunc_int_locks_Withdraw_1_L1 N id xs v () = some ((v + i : Nat) : Int)
  | [], v => .inl ⟨by simp, rfl⟩
  | x :: xs, v => by
    rw [slices_IndexFunc_int_locks_Withdraw_1_L1, nb1_eq, Option.bind_some]
    by_cases e : x = id
    · exact .inr ⟨0, by simp [e], by simp, by simp [e]⟩
    · have e' : ¬ id = x := fun q => e q.symm
      rcases index_L1 N id xs (v + 1) with ⟨h1, h2⟩ | ⟨i, h1, h2, h3⟩
      · exact .inl ⟨by simp [e', h1], by simp [e, h2]⟩
      · refine .inr ⟨i + 1, by simpa using h1, by simp [e', h2], ?_⟩
        simp only [e, decide_false, Bool.false_eq_true, if_false, h3]
        congr 2; omega
def neB (id : Int) (x : Int) : Bool := !decide (x = id)
structure DInv (a l : List Int) (id : Int) (i j : Nat) : Prop where
  len : l.length = a.length
  ij : i < j
  jl : j ≤ a.length
  pre : l.take i = (a.take j).filter (neB id)
  rest : ∀ q, j ≤ q → l[q]? = a[q]?
theorem delete_L1 (N : Nat) (a : List Int) (id : Int) (ha : a.length ≤ 1000) (kx : List Int → Int → Option (List Int)) : ∀ (n : Nat) (l : List Int) (i j : Nat), a.length < j + n → DInv a l id i j → ∃ l' i', DInv a l' id i' a.length ∧ slices_DeleteFunc_int_locks_Withdraw_1_L1 N id kx n (l, (i : Int), (j : Int)) = kx l' ((i' : Nat) : Int)
  | 0, l, i, j, hn, h => by have := h.jl; omega
  | n + 1, l, i, j, hn, h => by
    have hl := h.len; have hij := h.ij; have hj := h.jl
    rw [slices_DeleteFunc_int_locks_Withdraw_1_L1]
    by_cases hlt : j < a.length
    · have g1 : l[j]? = some a[j] := by rw [h.rest j (Nat.le_refl _), List.getElem?_eq_getElem hlt]
      have htk : a.take (j + 1) = a.take j ++ [a[j]] := by rw [List.take_add_one, List.getElem?_eq_getElem hlt]; rfl
      rw [if_pos (by omega), gx_nat g1, nb1_eq, Option.bind_some, w64 (n := (j : Int) + 1) (by omega) (by omega), show ((j : Int) + 1) = ((j + 1 : Nat) : Int) by omega]
      by_cases e : a[j] = id
      · simp only [e, decide_true, if_true]
        refine delete_L1 N a id ha kx n l i (j + 1) (by omega) ⟨hl, by omega, by omega, ?_, fun q hq => h.rest q (by omega)⟩
        rw [h.pre, htk, List.filter_append]; simp [neB, e]
      · have hil : i < l.length := by omega
        simp only [e, decide_false, Bool.false_eq_true, if_false]
        rw [gx_nat (List.getElem?_eq_getElem hil), w64 (n := (i : Int) + 1) (by omega) (by omega), show ((i : Int) + 1) = ((i + 1 : Nat) : Int) by omega, Int.toNat_natCast]
        refine delete_L1 N a id ha kx n (l.set i a[j]) (i + 1) (j + 1) (by omega) ⟨by simp [hl], by omega, by omega, ?_, fun q hq => by rw [List.getElem?_set_ne (by omega)]; exact h.rest q (by omega)⟩
        rw [take_set_succ hil, h.pre, htk, List.filter_append]; simp [neB, e]
    · rw [if_neg (by omega)]
      have : j = a.length := by omega
      subst this
      exact ⟨l, i, h, rfl⟩
theorem delete_eq (N : Nat) (hN : 1001 ≤ N) (a : List Int) (id : Int) (ha : a.length ≤ 1000) : slices_DeleteFunc_int_locks_Withdraw_1 N a id = some (a.filter (neB id)) := by
  unfold slices_DeleteFunc_int_locks_Withdraw_1 slices_IndexFunc_int_locks_Withdraw_1
  rcases index_L1 N id a 0 with ⟨h1, h2⟩ | ⟨i, h1, h2, h3⟩
  · rw [h2, Option.bind_some, if_pos rfl]
    have hf : a.filter (neB id) = a := List.filter_eq_self.2 (fun x hx => by
      simp only [neB]
      by_cases e : x = id
      · exact absurd (e ▸ hx) h1
      · simp [e])
    rw [hf]
  · have hil := (List.getElem?_eq_some_iff.1 h1).1
    rw [h3, Option.bind_some, if_neg (by omega), Nat.zero_add, w64 (by omega) (by omega), show ((i : Int) + 1) = ((i + 1 : Nat) : Int) by omega]
    have hd : DInv a a id i (i + 1) := ⟨rfl, by omega, by omega, by
      rw [List.take_add_one, h1, Option.toList_some, List.filter_append]
      have e1 : (a.take i).filter (neB id) = a.take i := List.filter_eq_self.2 fun x hx => by
        simp only [neB]
        by_cases e : x = id
        · exact absurd (e ▸ hx) h2
        · simp [e]
      rw [e1]; simp [neB], fun _ _ => rfl⟩
    obtain ⟨l', i', h', e'⟩ := delete_L1 N a id ha slices_DeleteFunc_int_locks_Withdraw_1_J1 N a i (i + 1) (by omega) hd
    rw [e']
    have q1 := h'.len; have q2 := h'.ij
    unfold slices_DeleteFunc_int_locks_Withdraw_1_J1 slx
    rw [Int.toNat_natCast, if_pos ⟨by omega, by omega, by omega, by omega⟩]
    dsimp only
    rw [if_pos ⟨by omega, by omega, by omega, by rw [clr_len (by omega)]; omega⟩]
    try dsimp only
    rw [clr_take (by omega), h'.pre, List.take_of_length_le (Nat.le_refl _)]
def lastW (w : List Int) : Int := (w[w.length - 1]?).getD 0
def passT (t : List Lock) (p : Nat) : List Lock × Int := match t[p]? with
  | some x => if x.Waiters.length = 0 then (t.take p ++ t.drop (p + 1), 0) else (t.set p ⟨x.Actor, lastW x.Waiters, x.Waiters.take (x.Waiters.length - 1)⟩, lastW x.Waiters)
  | none => (t, 0)
theorem lastW_get {w : List Int} (h : w.length ≠ 0) : w[w.length - 1]? = some (lastW w) := by
  have : w.length - 1 < w.length := by omega
  rw [lastW, List.getElem?_eq_getElem this]; rfl
theorem pass_eq (N : Nat) {t : List Lock} {p : Nat} {x : Lock} (hx : t[p]? = some x) (hp : t.length ≤ 1000) (hw : x.Waiters.length ≤ 32) : locks_pass N t (p : Int) = some (passT t p) := by
  have hlt := (List.getElem?_eq_some_iff.1 hx).1
  rw [locks_pass, gx_nat hx, passT, hx]
  dsimp only
  by_cases e : x.Waiters.length = 0
  · rw [if_pos (by omega), if_pos e, w64 (by omega) (by omega)]
    unfold slices_Delete_Lock delM
    rw [if_pos ⟨by omega, by omega, by omega⟩, Option.bind_some]
    simp only [Int.toNat_natCast, show ((p : Int) + 1).toNat = p + 1 by omega]
  · rw [if_neg (by omega), if_neg e, w64 (by omega) (by omega), show ((x.Waiters.length : Nat) : Int) - 1 = ((x.Waiters.length - 1 : Nat) : Int) by omega, gx_nat (lastW_get e)]
    unfold slt
    rw [Int.toNat_natCast, if_pos ⟨by omega, by omega⟩]
    simp only [List.set_set, Int.toNat_natCast]
theorem VL.passed {x : Lock} (h : VL x) (e : x.Waiters.length ≠ 0) : VL ⟨x.Actor, lastW x.Waiters, x.Waiters.take (x.Waiters.length - 1)⟩ := by
  have hg := lastW_get e
  have hm := h.w _ (List.mem_of_getElem? hg)
  have h1 := h.o2; have h2 := h.wl
  refine ⟨h.a, hm.1, by show lastW x.Waiters ≤ _; omega, by simp; omega, fun z hz => ⟨(h.w z (List.mem_of_mem_take hz)).1, ?_⟩, h.so.sublist (List.take_sublist _ _)⟩
  obtain ⟨i, hi⟩ := List.mem_iff_getElem?.1 hz
  have hil := (List.getElem?_eq_some_iff.1 hi).1
  rw [List.length_take] at hil
  rw [List.getElem?_take_of_lt (by omega)] at hi
  have hlt : i < x.Waiters.length := by omega
  have := List.pairwise_iff_getElem.1 h.so i (x.Waiters.length - 1) hlt (by omega) (by omega)
  rw [(List.getElem?_eq_some_iff.1 hi).2, (List.getElem?_eq_some_iff.1 hg).2] at this
  exact this
theorem passT_vt {t : List Lock} (h : VT t) (p : Nat) : VT (passT t p).1 := by
  unfold passT
  split
  · rename_i x hx
    split
    · refine ⟨?_, fun z hz => ?_, ?_⟩
      · have := h.len
        simp only [List.length_append, List.length_take, List.length_drop]; omega
      · rcases List.mem_append.1 hz with hz | hz
        · exact h.l z (List.mem_of_mem_take hz)
        · exact h.l z (List.mem_of_mem_drop hz)
      · refine h.so.sublist ?_
        conv => rhs; rw [← List.take_append_drop p t]
        refine List.Sublist.append (List.Sublist.refl _) ?_
        rw [← List.drop_drop]
        exact List.drop_sublist _ _
    · rename_i e
      exact h.set hx rfl ((h.l x (List.mem_of_getElem? hx)).passed e)
  · exact h
def rls (t : List Lock) (a : Ref) (n : Int) : List Lock × Int × Int :=
  if hasA t a = true then
    match t[pa t a]? with
    | some x => if x.Owner = n then ((passT t (pa t a)).1, (passT t (pa t a)).2, 0) else ([], 0, 10)
    | none => ([], 0, 0)
  else ([], 0, 10)
theorem rls_eq (N : Nat) (hN : 200 ≤ N) {t : List Lock} (h : VT t) {a : Ref} (ha : VA a) {n : Int} (n1 : 1 ≤ n) (n2 : n ≤ 1099511627776) : locks_Release N t a n = some (rls t a n) := by
  have hl := h.len
  simp only [locks_Release, valid_ok N h, actor_ok N ha, txn_ok N n1 n2, Option.bind_some, if_true, Bool.not_true, locks_Release_J1, Bool.false_eq_true, if_false, locks_Release_J4, find_eq N hN h]
  unfold rls
  by_cases hh : hasA t a = true
  · obtain ⟨x, hx, hxa⟩ := hasA_some hh
    have hv := h.l x (List.mem_of_getElem? hx)
    rw [if_pos hh, if_pos hh, gx_nat hx, hx]
    by_cases e : x.Owner = n
    · simp [e, locks_Release_J2, locks_Release_J3, clone_eq N h, pass_eq N hx (by omega) hv.wl]
    · simp [e, locks_Release_J2]
  · rw [if_neg hh, if_neg hh]
    simp [locks_Release_J2]
theorem VT.nil : VT [] := ⟨by simp, by simp, List.Pairwise.nil⟩
theorem rls_vt {t : List Lock} (h : VT t) (a : Ref) (n : Int) : VT (rls t a n).1 := by
  unfold rls
  split
  · split
    · split
      · exact passT_vt h _
      · exact VT.nil
    · exact VT.nil
  · exact VT.nil
def relL (n : Int) : List Lock → List Lock × List LockGrant
  | [] => ([], [])
  | x :: xs => if x.Owner = n then (if x.Waiters.length = 0 then relL n xs else (⟨x.Actor, lastW x.Waiters, x.Waiters.take (x.Waiters.length - 1)⟩ :: (relL n xs).1, ⟨x.Actor, lastW x.Waiters⟩ :: (relL n xs).2)) else (x :: (relL n xs).1, (relL n xs).2)
theorem at_mid {α : Type} {A B : List α} {x : α} : (A ++ x :: B)[A.length]? = some x := by simp
theorem set_mid {α : Type} {A B : List α} {x y : α} : (A ++ x :: B).set A.length y = A ++ y :: B := by simp
theorem passT_none {A B : List Lock} {x : Lock} (e : x.Waiters.length = 0) : passT (A ++ x :: B) A.length = (A ++ B, 0) := by
  rw [passT, at_mid]
  dsimp only
  rw [if_pos e]
  simp
theorem passT_some {A B : List Lock} {x : Lock} (e : x.Waiters.length ≠ 0) : passT (A ++ x :: B) A.length = (A ++ ⟨x.Actor, lastW x.Waiters, x.Waiters.take (x.Waiters.length - 1)⟩ :: B, lastW x.Waiters) := by
  rw [passT, at_mid]
  dsimp only
  rw [if_neg e, set_mid]
theorem last_pos {x : Lock} (h : VL x) (e : x.Waiters.length ≠ 0) : 1 ≤ lastW x.Waiters := (h.w _ (List.mem_of_getElem? (lastW_get e))).1
theorem relAll_L1 (N : Nat) (n : Int) : ∀ (B A : List Lock) (g : List LockGrant) (k : Nat), B.length < k → A.length + B.length ≤ 200 → g.length + B.length ≤ 1000 → (∀ x ∈ B, VL x) → locks_ReleaseAll_L1 n N k (A ++ B, g, ((A.length : Nat) : Int)) = some (A ++ (relL n B).1, g ++ (relL n B).2)
  | _, _, _, 0, h, _, _, _ => by omega
  | [], A, g, k + 1, h, h1, h2, hB => by
    rw [locks_ReleaseAll_L1, if_neg (by simp)]
    simp [relL]
  | x :: B, A, g, k + 1, h, h1, h2, hB => by
    simp only [List.length_cons] at h h1 h2
    have hx := hB x (by simp)
    rw [locks_ReleaseAll_L1, if_pos (by simp; omega), gx_nat at_mid]
    by_cases e : x.Owner = n
    · rw [if_pos e, pass_eq N at_mid (by simp; omega) hx.wl, Option.bind_some]
      by_cases e0 : x.Waiters.length = 0
      · rw [passT_none e0]
        dsimp only
        rw [if_pos rfl, relAll_L1 N n B A g k (by omega) (by omega) (by omega) (fun y hy => hB y (by simp [hy]))]
        simp [relL, e, e0]
      · have hp := last_pos hx e0
        rw [passT_some e0]
        dsimp only
        rw [if_neg (by omega), apx_ok (by simp only [List.length_cons, List.length_nil]; omega), w64 (by omega) (by omega)]
        have := relAll_L1 N n B (A ++ [⟨x.Actor, lastW x.Waiters, x.Waiters.take (x.Waiters.length - 1)⟩]) (g ++ [⟨x.Actor, lastW x.Waiters⟩]) k (by omega) (by simp; omega) (by simp; omega) (fun y hy => hB y (by simp [hy]))
        simp only [List.length_append, List.length_cons, List.length_nil, List.append_assoc, List.singleton_append] at this
        rw [show ((A.length : Nat) : Int) + 1 = ((A.length + (0 + 1) : Nat) : Int) by omega, this]
        simp [relL, e, e0]
    · rw [if_neg e, w64 (by omega) (by omega)]
      have := relAll_L1 N n B (A ++ [x]) g k (by omega) (by simp; omega) (by omega) (fun y hy => hB y (by simp [hy]))
      simp only [List.length_append, List.length_cons, List.length_nil, List.append_assoc, List.singleton_append] at this
      rw [show ((A.length : Nat) : Int) + 1 = ((A.length + (0 + 1) : Nat) : Int) by omega, this]
      simp [relL, e]
theorem relAll_eq (N : Nat) (hN : 200 ≤ N) {t : List Lock} (h : VT t) (n : Int) : locks_ReleaseAll N t n = some (relL n t) := by
  have hl := h.len
  have := relAll_L1 N n t [] [] N (by omega) (by simp; omega) (by simp; omega) h.l
  simp only [locks_ReleaseAll, valid_ok N h, Option.bind_some, if_true, clone_eq N h]
  simpa using this
theorem relL_mem {n : Int} : ∀ {t : List Lock} {y : Lock}, y ∈ (relL n t).1 → ∃ x ∈ t, y.Actor = x.Actor ∧ (VL x → VL y)
  | [], y, h => by simp [relL] at h
  | x :: xs, y, h => by
    unfold relL at h
    split at h
    · split at h
      · obtain ⟨z, hz, q⟩ := relL_mem h
        exact ⟨z, by simp [hz], q⟩
      · rename_i e0
        rcases List.mem_cons.1 h with rfl | h
        · exact ⟨x, by simp, rfl, fun hv => hv.passed e0⟩
        · obtain ⟨z, hz, q⟩ := relL_mem h
          exact ⟨z, by simp [hz], q⟩
    · rcases List.mem_cons.1 h with rfl | h
      · exact ⟨y, by simp, rfl, id⟩
      · obtain ⟨z, hz, q⟩ := relL_mem h
        exact ⟨z, by simp [hz], q⟩
theorem relL_len {n : Int} : ∀ (t : List Lock), (relL n t).1.length ≤ t.length
  | [] => by simp [relL]
  | x :: xs => by
    have := relL_len (n := n) xs
    unfold relL
    split
    · split <;> simp <;> omega
    · simp; omega
theorem relL_so {n : Int} : ∀ {t : List Lock}, (t.Pairwise fun a b => rl a.Actor b.Actor = true) → (relL n t).1.Pairwise fun a b => rl a.Actor b.Actor = true
  | [], _ => by simp [relL]
  | x :: xs, h => by
    rw [List.pairwise_cons] at h
    have ih := relL_so (n := n) h.2
    have hd : ∀ y ∈ (relL n xs).1, rl x.Actor y.Actor = true := by
      intro y hy
      obtain ⟨z, hz, q, _⟩ := relL_mem hy
      rw [q]; exact h.1 z hz
    unfold relL
    split
    · split
      · exact ih
      · rw [List.pairwise_cons]; exact ⟨hd, ih⟩
    · rw [List.pairwise_cons]; exact ⟨hd, ih⟩
theorem relL_vt {t : List Lock} (h : VT t) (n : Int) : VT (relL n t).1 := by
  refine ⟨Nat.le_trans (relL_len t) h.len, fun y hy => ?_, relL_so h.so⟩
  obtain ⟨x, hx, _, q⟩ := relL_mem hy
  exact q (h.l x hx)
def wd1 (n : Int) (x : Lock) : Lock := ⟨x.Actor, x.Owner, x.Waiters.filter (neB n)⟩
theorem wd_L1 (N : Nat) (hN : 1001 ≤ N) (n : Int) : ∀ (B A : List Lock) (m : Nat), m = B.length → (∀ x ∈ B, VL x) → locks_Withdraw_L1 N n m A.length (A ++ B) = some (A ++ B.map (wd1 n))
  | [], A, m, hm, hB => by subst hm; simp [locks_Withdraw_L1]
  | x :: B, A, m, hm, hB => by
    subst hm
    have hx := hB x (by simp)
    have hw := hx.wl
    rw [List.length_cons, locks_Withdraw_L1, gx_nat at_mid, delete_eq N hN _ n (by omega), Option.bind_some, set_mid]
    have := wd_L1 N hN n B (A ++ [wd1 n x]) B.length rfl (fun y hy => hB y (by simp [hy]))
    simp only [List.length_append, List.length_cons, List.length_nil, List.append_assoc, List.singleton_append, wd1] at this
    rw [this]; rfl
theorem wd_eq (N : Nat) (hN : 1001 ≤ N) {t : List Lock} (h : VT t) (n : Int) : locks_Withdraw N t n = some (t.map (wd1 n)) := by
  have := wd_L1 N hN n t [] t.length rfl h.l
  simp only [locks_Withdraw, valid_ok N h, Option.bind_some, if_true, clone_eq N h]
  simpa using this
theorem wd_vt {t : List Lock} (h : VT t) (n : Int) : VT (t.map (wd1 n)) := by
  refine ⟨by rw [List.length_map]; exact h.len, fun y hy => ?_, ?_⟩
  · obtain ⟨x, hx, rfl⟩ := List.mem_map.1 hy
    have hv := h.l x hx
    exact ⟨hv.a, hv.o1, hv.o2, Nat.le_trans (List.length_filter_le _ _) hv.wl, fun z hz => hv.w z (List.mem_filter.1 hz).1, hv.so.sublist List.filter_sublist⟩
  · rw [List.pairwise_map]
    exact h.so
end Go.Proofs.Ythafflhaoplpjaa

set_option linter.unusedSimpArgs false
set_option linter.unusedVariables false
namespace Go.Proofs.Ythafflhaoplpjaa
open Go Go.Proofs Go.Abs
def lp (a b : Arr2_i64) : Prop := a.e0 < b.e0 ∨ (a.e0 = b.e0 ∧ a.e1 < b.e1)
def leP (a b : Arr2_i64) : Prop := ¬ lp b a
instance (a b : Arr2_i64) : Decidable (lp a b) := by unfold lp; infer_instance
theorem pair_ext {a b : Arr2_i64} (h1 : a.e0 = b.e0) (h2 : a.e1 = b.e1) : a = b := by
  cases a; cases b; simp only at h1 h2; rw [h1, h2]
theorem eqP_iff {a b : Arr2_i64} : (decide (a.e0 = b.e0) && decide (a.e1 = b.e1)) = true ↔ a = b := by
  simp only [Bool.and_eq_true, decide_eq_true_eq]
  exact ⟨fun h => pair_ext h.1 h.2, fun h => by rw [h]; exact ⟨rfl, rfl⟩⟩
theorem leP_refl (a : Arr2_i64) : leP a a := by unfold leP lp; omega
theorem lp_of {y p c : Arr2_i64} (h1 : leP y p) (h2 : leP p c) (h3 : ¬ c = p) : lp y c := by
  have h3' : ¬ (c.e0 = p.e0 ∧ c.e1 = p.e1) := fun q => h3 (pair_ext q.1 q.2)
  unfold leP lp at *
  omega
theorem cmpI_eq (N : Nat) (a b : Int) : cmp_Compare_int N a b = some (if a < b then -1 else if b < a then 1 else 0) := by
  simp only [cmp_Compare_int, cmp_isNaN_int, Option.bind_some]
  by_cases h1 : a < b
  · simp [h1]
  · by_cases h2 : b < a <;> simp [h1, h2]
theorem edges1_eq (N : Nat) (a b : Arr2_i64) : ∃ c, locks_Edges_1 N a b = some c ∧ (c < 0 ↔ lp a b) := by
  simp only [locks_Edges_1, cmpI_eq, Option.bind_some, cmp_Or_int, cmp_Or_int_L1]
  unfold lp
  by_cases h1 : a.e0 < b.e0
  · exact ⟨-1, by simp [h1], by simp [h1]⟩
  · by_cases h2 : b.e0 < a.e0
    · refine ⟨1, by simp [h1, h2], by simp; omega⟩
    · by_cases h3 : a.e1 < b.e1
      · exact ⟨-1, by simp [h1, h2, h3], by simp; omega⟩
      · by_cases h4 : b.e1 < a.e1
        · exact ⟨1, by simp [h1, h2, h3, h4], by simp; omega⟩
        · exact ⟨0, by simp [h1, h2, h3, h4], by simp; omega⟩
theorem sortP {c : Arr2_i64 → Arr2_i64 → Option Int} (hc : ∀ x y, ∃ z, c x y = some z ∧ (z < 0 ↔ lp x y)) {l : List Arr2_i64} (hl : l.length ≤ 100000) : ∃ o, sortM c l = some o ∧ o.Perm l ∧ o.Pairwise leP := by
  have hlt : ∀ x y, Go.Proofs.ltOf (fun x y => (c x y).getD 0) x y = decide (lp x y) := by
    intro x y
    obtain ⟨z, e, hz⟩ := hc x y
    simp only [Go.Proofs.ltOf, e, Option.getD_some, hz]
  obtain ⟨o, ho⟩ := sortM_ok (c := c) (l := l) (fun x y => let ⟨z, e, _⟩ := hc x y; ⟨z, e⟩) ⟨fun x => by rw [hlt]; simp [lp], fun x y z h1 h2 => by rw [hlt] at h1 h2 ⊢; simp only [decide_eq_true_eq, decide_eq_false_iff_not] at h1 h2 ⊢; unfold lp at h1 h2 ⊢; omega, fun x y z h1 h2 => by rw [hlt] at h1 h2 ⊢; simp only [decide_eq_true_eq, decide_eq_false_iff_not] at h1 h2 ⊢; unfold lp at h1 h2 ⊢; omega⟩ (by omega)
  obtain ⟨hp, hs⟩ := sortM_sorts ho
  refine ⟨o, ho, hp, hs.imp (fun {a b} q => ?_)⟩
  obtain ⟨z, e, hz⟩ := hc b a
  rw [e, Option.getD_some, hz] at q
  exact q
structure CInv (a l : List Arr2_i64) (k j : Nat) : Prop where
  len : l.length = a.length
  kj : k ≤ j
  jl : j ≤ a.length
  j1 : 1 ≤ j
  so : (l.take k).Pairwise lp
  mem : ∀ z, z ∈ l.take k ↔ z ∈ a.take j
  rest : ∀ i, j ≤ i + 1 → l[i]? = a[i]?
  kj' : k ≤ j
theorem compact_L2 (a : List Arr2_i64) (hs : a.Pairwise leP) (ha : a.length ≤ 100000) (v3 : Nat) (h1 : 1 ≤ v3) (kx : List Arr2_i64 → Int → Option (List Arr2_i64)) :
    ∀ (n : Nat) (l : List Arr2_i64) (k m : Nat), a.length < v3 + m + n → 1 ≤ m → CInv a l k (v3 + m) → k < v3 + m → ∃ l' k', CInv a l' k' a.length ∧ slices_Compact_2int_L2 a v3 kx n (l, (k : Int), (m : Int)) = kx l' ((k' : Nat) : Int)
  | 0, l, k, m, hn, hm, h, hk => by have := h.jl; omega
  | n + 1, l, k, m, hn, hm, h, hk => by
    have hl := h.len; have hj := h.jl
    rw [slices_Compact_2int_L2]
    by_cases hlt : v3 + m < a.length
    · rw [if_pos (by omega)]
      have e1 : l[v3 + m]? = a[v3 + m]? := h.rest _ (by omega)
      have e2 : l[v3 + (m - 1)]? = a[v3 + (m - 1)]? := h.rest _ (by omega)
      have g1 : ((l.drop v3).take (a.length - v3))[m]? = some a[v3 + m] := by
        rw [List.getElem?_take_of_lt (by omega), List.getElem?_drop, e1, List.getElem?_eq_getElem hlt]
      have g2 : ((l.drop v3).take (a.length - v3))[m - 1]? = some (a[v3 + (m - 1)]'(by omega)) := by
        rw [List.getElem?_take_of_lt (by omega), List.getElem?_drop, e2, List.getElem?_eq_getElem (by omega)]
      rw [gx_nat g1, w64 (by omega) (by omega), show ((m : Int) - 1) = ((m - 1 : Nat) : Int) by omega, gx_nat g2, w64 (n := (m : Int) + 1) (by omega) (by omega), show ((m : Int) + 1) = ((m + 1 : Nat) : Int) by omega]
      have htk : ∀ z, z ∈ a.take (v3 + m + 1) ↔ z ∈ a.take (v3 + m) ∨ z = a[v3 + m] := by
        intro z
        rw [List.take_add_one, List.getElem?_eq_getElem hlt, List.mem_append, Option.toList_some, List.mem_singleton]
      have hprev : (a[v3 + (m - 1)]'(by omega)) ∈ a.take (v3 + m) := by
        refine List.mem_of_getElem? (i := v3 + (m - 1)) ?_
        rw [List.getElem?_take_of_lt (by omega), List.getElem?_eq_getElem (by omega)]
      by_cases e : a[v3 + m] = (a[v3 + (m - 1)]'(by omega))
      · rw [if_pos (eqP_iff.2 e)]
        refine compact_L2 a hs ha v3 h1 kx n l k (m + 1) (by omega) (by omega) ⟨hl, by have := h.kj; omega, by omega, by omega, h.so, fun z => ?_, fun i hi => h.rest i (by omega), by omega⟩ (by omega)
        rw [h.mem, ← Nat.add_assoc, htk]
        constructor
        · exact .inl
        · rintro (q | q)
          · exact q
          · rw [q, e]; exact hprev
      · rw [if_neg (fun q => e (eqP_iff.1 q))]
        have hkl : k < l.length := by omega
        rw [gx_nat (List.getElem?_eq_getElem hkl), w64 (n := (k : Int) + 1) (by omega) (by omega), show ((k : Int) + 1) = ((k + 1 : Nat) : Int) by omega, Int.toNat_natCast]
        refine compact_L2 a hs ha v3 h1 kx n (l.set k a[v3 + m]) (k + 1) (m + 1) (by omega) (by omega) ⟨by simp [hl], by omega, by omega, by omega, ?_, fun z => ?_, fun i hi => ?_, by omega⟩ (by omega)
        · rw [take_set_succ hkl, List.pairwise_append]
          refine ⟨h.so, by simp, fun y hy z hz => ?_⟩
          obtain rfl := List.mem_singleton.1 hz
          have hy' := (h.mem y).1 hy
          obtain ⟨i, hi⟩ := List.mem_iff_getElem?.1 hy'
          have hil := (List.getElem?_eq_some_iff.1 hi).1
          simp only [List.length_take] at hil
          rw [List.getElem?_take_of_lt (by omega), List.getElem?_eq_getElem (by omega), Option.some.injEq] at hi
          have hp1 : leP (a[v3 + (m - 1)]'(by omega)) a[v3 + m] := List.pairwise_iff_getElem.1 hs _ _ (by omega) hlt (by omega)
          rcases Nat.lt_or_ge i (v3 + (m - 1)) with q | q
          · have h1 := List.pairwise_iff_getElem.1 hs i (v3 + (m - 1)) (by omega) (by omega) q
            rw [hi] at h1
            exact lp_of h1 hp1 e
          · have : i = v3 + (m - 1) := by omega
            subst this
            rw [hi] at hp1 e
            exact lp_of (leP_refl _) hp1 e
        · rw [take_set_succ hkl, List.mem_append, List.mem_singleton, h.mem, ← Nat.add_assoc, htk]
        · rw [List.getElem?_set_ne (by omega)]; exact h.rest i (by omega)
    · rw [if_neg (by omega)]
      have : v3 + m = a.length := by omega
      rw [this] at h
      exact ⟨l, k, h, rfl⟩
theorem compact_J1 {a l : List Arr2_i64} {k : Nat} (h : CInv a l k a.length) : slices_Compact_2int_J1 l (k : Int) = some (l.take k) := by
  have h1 := h.len; have h2 := h.kj
  unfold slices_Compact_2int_J1 slx
  rw [Int.toNat_natCast, if_pos ⟨by omega, by omega, by omega, by omega⟩]
  dsimp only
  rw [if_pos ⟨by omega, by omega, by omega, by rw [clr_len (by omega)]; omega⟩]
  try dsimp only
  rw [clr_take (by omega)]
theorem compact_L1 (N : Nat) (a : List Arr2_i64) (hs : a.Pairwise leP) (ha : a.length ≤ 100000) (hN : 100002 ≤ N) : ∀ (m v : Nat), v + m = a.length → 1 ≤ v → (a.take v).Pairwise lp → ∃ r, slices_Compact_2int_L1 a N m v () = some r ∧ r.Pairwise lp ∧ ∀ z, z ∈ r ↔ z ∈ a
  | 0, v, hv, h1, hp => ⟨a, rfl, by rwa [List.take_of_length_le (by omega)] at hp, fun z => Iff.rfl⟩
  | m + 1, v, hv, h1, hp => by
    have hvl : v < a.length := by omega
    have g1 : a[v]? = some a[v] := List.getElem?_eq_getElem hvl
    have g2 : a[v - 1]? = some (a[v - 1]'(by omega)) := List.getElem?_eq_getElem (by omega)
    have hprev : (a[v - 1]'(by omega)) ∈ a.take v := by
      refine List.mem_of_getElem? (i := v - 1) ?_
      rw [List.getElem?_take_of_lt (by omega), g2]
    have htk : ∀ z, z ∈ a.take (v + 1) ↔ z ∈ a.take v ∨ z = a[v] := by
      intro z
      rw [List.take_add_one, g1, List.mem_append, Option.toList_some, List.mem_singleton]
    rw [slices_Compact_2int_L1, gx_nat g1, w64 (by omega) (by omega), show ((v : Int) - 1) = ((v - 1 : Nat) : Int) by omega, gx_nat g2]
    by_cases e : a[v] = (a[v - 1]'(by omega))
    · rw [if_pos (eqP_iff.2 e)]
      unfold slx
      rw [if_pos ⟨by omega, by omega, by omega, by omega⟩]
      dsimp only
      have hc : CInv a a v (v + 1) := ⟨rfl, by omega, by omega, by omega, hp, fun z => by
        rw [htk]
        constructor
        · exact .inl
        · rintro (q | q)
          · exact q
          · rw [q, e]; exact hprev, fun i _ => rfl, by omega⟩
      obtain ⟨l', k', h', e'⟩ := compact_L2 a hs ha v h1 slices_Compact_2int_J1 N a v 1 (by omega) (by omega) hc (by omega)
      rw [show ((1 : Int)) = ((1 : Nat) : Int) from rfl, e', compact_J1 h']
      exact ⟨_, rfl, h'.so, fun z => by rw [h'.mem, List.take_of_length_le (Nat.le_refl _)]⟩
    · rw [if_neg (fun q => e (eqP_iff.1 q))]
      refine compact_L1 N a hs ha hN m (v + 1) (by omega) (by omega) ?_
      rw [List.take_add_one, g1, Option.toList_some, List.pairwise_append]
      refine ⟨hp, by simp, fun y hy z hz => ?_⟩
      obtain rfl := List.mem_singleton.1 hz
      obtain ⟨i, hi⟩ := List.mem_iff_getElem?.1 hy
      have hil := (List.getElem?_eq_some_iff.1 hi).1
      simp only [List.length_take] at hil
      rw [List.getElem?_take_of_lt (by omega), List.getElem?_eq_getElem (by omega), Option.some.injEq] at hi
      have hp1 : leP (a[v - 1]'(by omega)) a[v] := List.pairwise_iff_getElem.1 hs _ _ (by omega) hvl (by omega)
      rcases Nat.lt_or_ge i (v - 1) with q | q
      · have h1 := List.pairwise_iff_getElem.1 hs i (v - 1) (by omega) (by omega) q
        rw [hi] at h1
        exact lp_of h1 hp1 e
      · have : i = v - 1 := by omega
        subst this
        rw [hi] at hp1 e
        exact lp_of (leP_refl _) hp1 e
theorem compact_eq (N : Nat) (hN : 100002 ≤ N) (a : List Arr2_i64) (hs : a.Pairwise leP) (ha : a.length ≤ 100000) : ∃ r, slices_Compact_2int N a = some r ∧ r.Pairwise lp ∧ ∀ z, z ∈ r ↔ z ∈ a := by
  unfold slices_Compact_2int
  by_cases h : ((a.length : Nat) : Int) < 2
  · rw [if_pos h]
    refine ⟨a, rfl, ?_, fun z => Iff.rfl⟩
    match a, h with
    | [], _ => exact List.Pairwise.nil
    | [x], _ => simp
    | _ :: _ :: _, h => simp at h; omega
  · rw [if_neg h]
    refine compact_L1 N a hs ha hN (a.length - 1) 1 (by omega) (by omega) ?_
    match a, h with
    | x :: xs, _ => simp
def edgesL (t : List Lock) : List Arr2_i64 := t.flatMap fun x => x.Waiters.map fun w => ⟨w, x.Owner⟩
theorem edges_len : ∀ {t : List Lock}, (∀ x ∈ t, VL x) → (edgesL t).length ≤ t.length * 32
  | [], _ => by simp [edgesL]
  | x :: t, h => by
    have ih := edges_len (t := t) (fun y hy => h y (by simp [hy]))
    have hw := (h x (by simp)).wl
    simp only [edgesL, List.flatMap_cons, List.length_append, List.length_map, List.length_cons] at ih ⊢
    omega
theorem edges_L2 (k : List Arr2_i64 → Option (List Arr2_i64)) (x : Lock) : ∀ (xs : List Int) (v : Nat) (acc : List Arr2_i64), acc.length + xs.length ≤ 100000 → locks_Edges_L2 k x xs v acc = k (acc ++ xs.map fun w => ⟨w, x.Owner⟩)
  | [], v, acc, _ => by simp [locks_Edges_L2]
  | w :: xs, v, acc, h => by
    simp only [List.length_cons] at h
    rw [locks_Edges_L2, apx_ok (by simp only [List.length_cons, List.length_nil]; omega), edges_L2 k x xs (v + 1) _ (by simp; omega)]
    simp
theorem edges_L1 (k : List Arr2_i64 → Option (List Arr2_i64)) : ∀ (t : List Lock) (v : Nat) (acc : List Arr2_i64), (∀ x ∈ t, VL x) → acc.length + t.length * 32 ≤ 100000 → locks_Edges_L1 k t v acc = k (acc ++ edgesL t)
  | [], v, acc, _, _ => by simp [locks_Edges_L1, edgesL]
  | x :: t, v, acc, h, hl => by
    simp only [List.length_cons] at hl
    have hw := (h x (by simp)).wl
    rw [locks_Edges_L1, edges_L2 _ x _ 0 acc (by omega), edges_L1 k t (v + 1) _ (fun y hy => h y (by simp [hy])) (by simp; omega)]
    simp [edgesL]
set_option maxRecDepth 100000 in
theorem small_nil (N : Nat) (hN : 1 ≤ N) : slices_SortFunc_2int_locks_Edges_1_small N [] = some [] := by
  obtain ⟨n, rfl⟩ : ∃ n, N = n + 1 := ⟨N - 1, by omega⟩
  rfl
theorem edges_eq (N : Nat) (hN : 100002 ≤ N) {t : List Lock} (h : VT t) : ∃ r, locks_Edges N t = some r ∧ r.Pairwise lp ∧ ∀ z, z ∈ r ↔ z ∈ edgesL t := by
  have hl := h.len
  have he := edges_len h.l
  simp only [locks_Edges, valid_ok N h, Option.bind_some, if_true]
  rw [edges_L1 _ t 0 [] h.l (by simp; omega), List.nil_append, locks_Edges_J1]
  unfold slices_SortFunc_2int_locks_Edges_1
  by_cases hn : (edgesL t).isEmpty = true
  · rw [if_pos hn, List.isEmpty_iff.1 hn, small_nil N (by omega), Option.bind_some]
    refine ⟨[], by simp [slices_Compact_2int], List.Pairwise.nil, fun z => Iff.rfl⟩
  · obtain ⟨o, ho, hp, hs⟩ := sortP (edges1_eq N) (l := edgesL t) (by omega)
    have hol := hp.length_eq
    obtain ⟨r, hr, q1, q2⟩ := compact_eq N hN o hs (by omega)
    rw [if_neg hn, ho, Option.bind_some, hr]
    exact ⟨r, rfl, q1, fun z => by rw [q2, hp.mem_iff]⟩
end Go.Proofs.Ythafflhaoplpjaa

set_option linter.unusedSimpArgs false
set_option linter.unusedVariables false
namespace Go.Proofs.Ythafflhaoplpjaa
open Go Go.Proofs Go.Abs
theorem owner_eq (N : Nat) (hN : 200 ≤ N) {t : List Lock} (h : VT t) (a : Ref) : locks_Owner N t a = some (if hasA t a = true then ((t[pa t a]?).map Lock.Owner).getD 0 else 0) := by
  simp only [locks_Owner, valid_ok N h, Option.bind_some, if_true, find_eq N hN h]
  by_cases hh : hasA t a = true
  · obtain ⟨x, hx, _⟩ := hasA_some hh
    rw [if_pos hh, if_pos hh, gx_nat hx, hx]; rfl
  · rw [if_neg hh, if_neg hh]
def kA : Ref := ⟨⟨#[65]⟩, ⟨#[107]⟩⟩
theorem va_kA : VA kA := ⟨by decide, by decide, by decide⟩
theorem eqA_refl (a : Ref) : eqA a a = true := eqA_iff.2 rfl
theorem pa1 (o : Int) (w : List Int) : pa [⟨kA, o, w⟩] kA = 0 := by simp [pa, plc, List.takeWhile_cons, rl_irrefl]
theorem has1 (o : Int) (w : List Int) : hasA [⟨kA, o, w⟩] kA = true := by simp [hasA, pa1, eqA_refl]
theorem acq_ex0 : acq [] kA 5 = ([⟨kA, 5, []⟩], 1, 0) := by simp [acq, hasA, pa, plc]
theorem acq_ex1 : acq [⟨kA, 5, []⟩] kA 3 = ([⟨kA, 5, [3]⟩], 2, 0) := by simp [acq, has1, pa1, insW, pz, plc]
theorem acq_ex2 : acq [⟨kA, 5, [3]⟩] kA 7 = ([⟨kA, 5, [3]⟩], 3, 0) := by simp [acq, has1, pa1]
theorem acq_ex3 : acq [⟨kA, 5, [3]⟩] kA 2 = ([⟨kA, 5, [2, 3]⟩], 2, 0) := by simp [acq, has1, pa1, insW, pz, plc, List.takeWhile_cons]
theorem rls_ex : rls [⟨kA, 5, [2, 3]⟩] kA 5 = ([⟨kA, 3, [2]⟩], 3, 0) := by simp [rls, has1, pa1, passT, lastW]
theorem one_edge {r : List Arr2_i64} (h1 : r.Pairwise lp) (h2 : ∀ z, z ∈ r ↔ z ∈ edgesL [⟨kA, 3, [2]⟩]) : r = [⟨2, 3⟩] := by
  have he : edgesL [⟨kA, 3, [2]⟩] = [⟨2, 3⟩] := by simp [edgesL]
  rw [he] at h2
  match r, h1, h2 with
  | [], _, h2 => have := (h2 ⟨2, 3⟩).2 (by simp); simp at this
  | [x], _, h2 => have := (h2 x).1 (by simp); simp at this; rw [this]
  | x :: y :: r, h1, h2 =>
    exfalso
    have e1 := (h2 x).1 (by simp)
    have e2 := (h2 y).1 (by simp)
    rw [List.pairwise_cons] at h1
    have := h1.1 y (by simp)
    simp only [List.mem_singleton] at e1 e2
    rw [e1, e2] at this
    unfold lp at this; simp at this
theorem awake31 (N : Nat) (hN : 100002 ≤ N) : law31_awake N = some true := by
  have e : (Ref.mk (⟨#[65]⟩) (⟨#[107]⟩)) = kA := rfl
  have v1 : VT [⟨kA, 5, []⟩] := by have := acq_vt VT.nil va_kA (n := 5) (by omega) (by omega); rwa [acq_ex0] at this
  have v2 : VT [⟨kA, 5, [3]⟩] := by have := acq_vt v1 va_kA (n := 3) (by omega) (by omega); rwa [acq_ex1] at this
  have v3 : VT [⟨kA, 5, [2, 3]⟩] := by have := acq_vt v2 va_kA (n := 2) (by omega) (by omega); rwa [acq_ex3] at this
  have v4 : VT [⟨kA, 3, [2]⟩] := by have := rls_vt v3 kA 5; rwa [rls_ex] at this
  obtain ⟨r, er, h1, h2⟩ := edges_eq N hN v4
  have := one_edge h1 h2
  subst this
  simp only [law31_awake, e, acq_eq N (by omega) VT.nil va_kA (n := 5) (by omega) (by omega), acq_ex0, Option.bind_some, if_true, owner_eq N (by omega) v1, has1, pa1, law31_awake_J1, law31_awake_J8, acq_eq N (by omega) v1 va_kA (n := 3) (by omega) (by omega), acq_ex1, law31_awake_J2, law31_awake_J7, acq_eq N (by omega) v2 va_kA (n := 7) (by omega) (by omega), acq_ex2, law31_awake_J3, law31_awake_J6, acq_eq N (by omega) v2 va_kA (n := 2) (by omega) (by omega), acq_ex3, rls_eq N (by omega) v3 va_kA (n := 5) (by omega) (by omega), rls_ex, valid_ok N v4, law31_awake_J4, law31_awake_J5, er, wd_eq N (by omega) v4]
  simp [gx]
abbrev Act31 := actorgridlaw31_Act
def U8B (x : Act31) : Prop := (0 ≤ x.Kind ∧ x.Kind ≤ 255) ∧ (0 ≤ x.Txn ∧ x.Txn ≤ 255) ∧ (0 ≤ x.Actor ∧ x.Actor ≤ 255)
theorem ref31 (N : Nat) {n : Int} (h0 : 0 ≤ n) (h1 : n ≤ 255) : ∃ a, law31_ref N n = some a ∧ VA a := by
  have em : Int.tmod n 6 = n % 6 := Int.tmod_eq_emod_of_nonneg h0
  have e1 : IntKind.i64.wrap (n % 6) = n % 6 := w64 (by omega) (by omega)
  have e2 : IntKind.i64.wrap (n % 6 + 1) = n % 6 + 1 := w64 (by omega) (by omega)
  have hs : (⟨#[97, 98, 99, 100, 101, 102]⟩ : ByteArray).size = 6 := rfl
  rw [law31_ref, em, e1, e2]
  unfold sls
  rw [if_pos ⟨by omega, by omega, by omega, by rw [hs]; omega⟩]
  refine ⟨_, rfl, ⟨by show 1 ≤ (⟨#[65]⟩ : ByteArray).size; decide, by show (⟨#[65]⟩ : ByteArray).size ≤ 32; decide, ?_⟩⟩
  show (ByteArray.extract _ _ _).size ≤ 32
  rw [ByteArray.size_extract, hs]; omega
theorem txn31 {n k : Int} (h0 : 0 ≤ n) (h1 : n ≤ 255) (hk : k = 20 ∨ k = 40) : IntKind.i64.wrap ((IntKind.i64.wrap (Int.tmod n k)) + 1) = n % k + 1 := by
  have em : Int.tmod n k = n % k := Int.tmod_eq_emod_of_nonneg h0
  have hb : 0 ≤ n % k ∧ n % k < 40 := by rcases hk with rfl | rfl <;> omega
  have e1 : IntKind.i64.wrap (n % k) = n % k := w64 (by omega) (by omega)
  have e2 : IntKind.i64.wrap (n % k + 1) = n % k + 1 := w64 (by omega) (by omega)
  rw [em, e1, e2]
end Go.Proofs.Ythafflhaoplpjaa

set_option linter.unusedSimpArgs false
set_option linter.unusedVariables false
namespace Go.Proofs.Ythafflhaoplpjaa
open Go Go.Proofs Go.Abs
theorem acq_len (t : List Lock) (a : Ref) (n : Int) : (acq t a n).1.length ≤ t.length + 1 := by
  have := pa_le t a
  unfold acq
  split
  · split
    · split
      · simp
      · split
        · simp
        · split
          · simp
          · split <;> simp
    · simp
  · split
    · simp
    · simp; omega
theorem passT_len (t : List Lock) (p : Nat) : (passT t p).1.length ≤ t.length := by
  unfold passT
  split
  · split
    · simp; omega
    · simp
  · simp
theorem rls_len (t : List Lock) (a : Ref) (n : Int) : (rls t a n).1.length ≤ t.length := by
  unfold rls
  split
  · split
    · split
      · exact passT_len t _
      · simp
    · simp
  · simp
theorem play_eq (N : Nat) (hN : 2000 ≤ N) {t : List Lock} (h : VT t) {x : Act31} (hx : U8B x) : ∃ t', law31_play N t x = some t' ∧ VT t' ∧ t'.length ≤ t.length + 1 := by
  have en := txn31 hx.2.1.1 hx.2.1.2 (k := 20) (.inl rfl)
  have n1 : 1 ≤ x.Txn % 20 + 1 := by omega
  have n2 : x.Txn % 20 + 1 ≤ 1099511627776 := by omega
  obtain ⟨a, ea, ha⟩ := ref31 N hx.2.2.1 hx.2.2.2
  have hJ : ∀ c, ∃ t', law31_play_J1 N x t c = some t' ∧ VT t' ∧ t'.length ≤ t.length + 1 := by
    intro c
    unfold law31_play_J1
    rw [en]
    cases c
    · simp only [Bool.false_eq_true, if_false]
      split
      · rw [ea, Option.bind_some, rls_eq N (by omega) h ha n1 n2, Option.bind_some]
        split
        · exact ⟨_, rfl, rls_vt h a _, Nat.le_succ_of_le (rls_len t a _)⟩
        · exact ⟨_, rfl, h, Nat.le_succ _⟩
      · split
        · rw [relAll_eq N (by omega) h, Option.bind_some]
          exact ⟨_, rfl, relL_vt h _, Nat.le_succ_of_le (relL_len t)⟩
        · rw [wd_eq N (by omega) h, Option.bind_some]
          exact ⟨_, rfl, wd_vt h _, by simp⟩
    · rw [if_pos rfl, ea, Option.bind_some, acq_eq N (by omega) h ha n1 n2, Option.bind_some]
      split
      · exact ⟨_, rfl, acq_vt h ha n1 n2, acq_len t a _⟩
      · exact ⟨_, rfl, h, Nat.le_succ _⟩
  unfold law31_play
  split
  · exact hJ _
  · split <;> exact hJ _
end Go.Proofs.Ythafflhaoplpjaa

set_option linter.unusedSimpArgs false
set_option linter.unusedVariables false
namespace Go.Proofs.Ythafflhaoplpjaa
open Go Go.Proofs Go.Abs
theorem eqA_ne {a b : Ref} (h : a ≠ b) : eqA a b = false := by
  cases e : eqA a b
  · rfl
  · exact absurd (eqA_iff.1 e) h
theorem ho_L2 (k : List Int → Option Bool) (a : Ref) : ∀ (xs : List Lock) (v : Nat) (l : List Int), (∀ y ∈ xs, y.Actor ≠ a) → law31_LocksHandOver_L2 k a xs v l = k l
  | [], v, l, _ => rfl
  | y :: xs, v, l, h => by
    have e := eqA_ne (h y (by simp))
    unfold eqA at e
    rw [law31_LocksHandOver_L2, if_neg (by rw [e]; simp)]
    exact ho_L2 k a xs (v + 1) l (fun z hz => h z (by simp [hz]))
theorem ho_L2' (k : List Int → Option Bool) (a : Ref) {x : Lock} (hx : x.Actor = a) : ∀ (A B : List Lock) (v : Nat) (l : List Int), (∀ y ∈ A, y.Actor ≠ a) → (∀ y ∈ B, y.Actor ≠ a) → law31_LocksHandOver_L2 k a (A ++ x :: B) v l = k x.Waiters
  | [], B, v, l, hA, hB => by
    have e := eqA_refl a
    unfold eqA at e
    rw [List.nil_append, law31_LocksHandOver_L2, hx, if_pos e]
    exact ho_L2 k a B (v + 1) x.Waiters hB
  | y :: A, B, v, l, hA, hB => by
    have e := eqA_ne (hA y (by simp))
    unfold eqA at e
    rw [List.cons_append, law31_LocksHandOver_L2, if_neg (by rw [e]; simp)]
    exact ho_L2' k a hx A B (v + 1) l (fun z hz => hA z (by simp [hz])) hB
theorem ho_L4 (k : Unit → Option Bool) {z : Lock} : ∀ (xs : List Int) (v : Nat), z.Waiters.drop v = xs → law31_LocksHandOver_L4 k z xs v () = k ()
  | [], v, _ => rfl
  | x :: xs, v, hd => by
    obtain ⟨hvl, hx, hd'⟩ := drop_at hd
    rw [law31_LocksHandOver_L4, gx_nat hx, if_pos rfl]
    exact ho_L4 k xs (v + 1) hd'
def Same (a : Ref) (z y : Lock) : Prop := z.Actor = y.Actor ∧ (y.Actor = a → z.Waiters = y.Waiters.take (y.Waiters.length - 1) ∧ 1 ≤ y.Waiters.length ∧ y.Waiters.length ≤ 32) ∧ (y.Actor ≠ a → z = y)
theorem ho_J4 {t : List Lock} {v : Nat} {y z : Lock} (hy : t[v]? = some y) (ha : z.Actor = y.Actor) (k : Unit → Option Bool) : law31_LocksHandOver_J4 t v z k z.Waiters = k () := by
  have e := eqA_refl y.Actor
  unfold eqA at e
  rw [law31_LocksHandOver_J4, gx_nat hy, ha, if_pos e]
  simp only [decide_true, Bool.not_true, law31_LocksHandOver_J2, Bool.false_eq_true, if_false, law31_LocksHandOver_J3]
  exact ho_L4 k z.Waiters 0 rfl
theorem ho_L3 {t : List Lock} {a : Ref} : ∀ (zs ys : List Lock) (v : Nat), t.drop v = ys → zs.length = ys.length → (∀ (i : Nat) (z y : Lock), zs[i]? = some z → ys[i]? = some y → Same a z y) → law31_LocksHandOver_L3 t a zs v () = some true
  | [], _, v, _, _, _ => rfl
  | z :: zs, [], v, hd, hl, h => by simp at hl
  | z :: zs, y :: ys, v, hd, hl, h => by
    obtain ⟨hvl, hy, hd'⟩ := drop_at hd
    obtain ⟨s1, s2, s3⟩ := h 0 z y rfl rfl
    have ih := ho_L3 zs ys (v + 1) hd' (by simpa using hl) (fun i z' y' h1 h2 => h (i + 1) z' y' (by simpa using h1) (by simpa using h2))
    rw [law31_LocksHandOver_L3, gx_nat hy]
    by_cases e : y.Actor = a
    · have e' : eqA y.Actor a = true := eqA_iff.2 e
      unfold eqA at e'
      obtain ⟨w1, w2, w3⟩ := s2 e
      rw [if_pos e', w64 (by omega) (by omega), show ((y.Waiters.length : Nat) : Int) - 1 = ((y.Waiters.length - 1 : Nat) : Int) by omega]
      unfold slx
      rw [Int.toNat_natCast, if_pos ⟨by omega, by omega, by simp, by omega⟩]
      have e2 : List.take (y.Waiters.length - 1 - (0 : Int).toNat) (List.drop (0 : Int).toNat y.Waiters) = z.Waiters := by rw [w1]; simp
      rw [e2]
      dsimp only
      rw [ho_J4 hy s1, ih]
    · have e' := eqA_ne e
      unfold eqA at e'
      have hz := s3 e
      subst hz
      rw [if_neg (by rw [e']; simp), if_pos rfl, ho_J4 hy rfl, ih]
theorem split_at {t : List Lock} (h : VT t) {a : Ref} {x : Lock} (hx : t[pa t a]? = some x) (hxa : x.Actor = a) : ∃ A B, t = A ++ x :: B ∧ A.length = pa t a ∧ (∀ y ∈ A, y.Actor ≠ a) ∧ (∀ y ∈ B, y.Actor ≠ a) := by
  have hlt := (List.getElem?_eq_some_iff.1 hx).1
  have hxe := (List.getElem?_eq_some_iff.1 hx).2
  have ht : t = t.take (pa t a) ++ x :: t.drop (pa t a + 1) := by
    conv => lhs; rw [← List.take_append_drop (pa t a) t, List.drop_eq_getElem_cons hlt, hxe]
  have hs := h.so
  rw [ht, List.pairwise_append] at hs
  obtain ⟨_, s2, s3⟩ := hs
  rw [List.pairwise_cons] at s2
  refine ⟨t.take (pa t a), t.drop (pa t a + 1), ht, by rw [List.length_take]; omega, fun y hy e => ?_, fun y hy e => ?_⟩
  · have := s3 y hy x (by simp)
    rw [e, hxa, rl_irrefl] at this; simp at this
  · have := s2.1 y hy
    rw [e, hxa, rl_irrefl] at this; simp at this
theorem ho_J7 (N : Nat) (hN : 2000 ≤ N) {t : List Lock} (h : VT t) {n : Int} (h0 : 0 ≤ n) (h1 : n ≤ 255) : law31_LocksHandOver_J7 N n t = some true := by
  obtain ⟨a, ea, ha⟩ := ref31 N h0 h1
  have hl := h.len
  rw [law31_LocksHandOver_J7, ea, Option.bind_some, owner_eq N (by omega) h, Option.bind_some]
  by_cases hh : hasA t a = true
  · obtain ⟨x, hx, hxa⟩ := hasA_some hh
    have hv := h.l x (List.mem_of_getElem? hx)
    have ho := hv.o1
    have hw := hv.wl
    obtain ⟨A, B, ht, hA, nA, nB⟩ := split_at h hx hxa
    have ho' : ¬ x.Owner = 0 := by omega
    rw [if_pos hh, hx]
    simp only [Option.map_some, Option.getD_some, ho', if_false]
    have hr : rls t a x.Owner = ((passT t (pa t a)).1, (passT t (pa t a)).2, 0) := by
      unfold rls; rw [if_pos hh, hx]; simp
    have hpv := passT_vt h (pa t a)
    rw [show law31_LocksHandOver_L2 (law31_LocksHandOver_J6 N t a x.Owner) a t 0 [] = law31_LocksHandOver_L2 (law31_LocksHandOver_J6 N t a x.Owner) a (A ++ x :: B) 0 [] by rw [← ht], ho_L2' _ a hxa A B 0 [] nA nB, law31_LocksHandOver_J6, rls_eq N (by omega) h ha ho hv.o2, Option.bind_some, hr]
    rw [if_pos rfl]
    by_cases e0 : x.Waiters.length = 0
    · have hp : passT t (pa t a) = (A ++ B, 0) := by rw [← hA, ht]; exact passT_none e0
      rw [hp] at hpv ⊢
      have hno : ¬ hasA (A ++ B) a = true := by
        intro q
        obtain ⟨y, hy, hya⟩ := hasA_some q
        rcases List.mem_append.1 (List.mem_of_getElem? hy) with q | q
        · exact nA y q hya
        · exact nB y q hya
      have hlen : t.length = (A ++ B).length + 1 := by rw [ht]; simp; omega
      rw [if_pos (by omega), if_pos rfl]
      dsimp only at hpv ⊢
      rw [owner_eq N (by omega) hpv, Option.bind_some, if_neg hno, if_pos rfl, w64 (by omega) (by omega)]
      simp only [Option.some.injEq, decide_eq_true_eq]
      omega
    · have hp : passT t (pa t a) = (A ++ ⟨x.Actor, lastW x.Waiters, x.Waiters.take (x.Waiters.length - 1)⟩ :: B, lastW x.Waiters) := by rw [← hA, ht]; exact passT_some e0
      have hlast := last_pos hv e0
      rw [hp] at hpv ⊢
      dsimp only at hpv ⊢
      have hm := hasA_mem hpv.so (x := ⟨x.Actor, lastW x.Waiters, x.Waiters.take (x.Waiters.length - 1)⟩) at_mid
      simp only [hxa] at hm hpv ⊢
      have hlen : t.length = (A ++ (⟨a, lastW x.Waiters, x.Waiters.take (x.Waiters.length - 1)⟩ : Lock) :: B).length := by rw [ht]; simp
      rw [if_neg (by omega), w64 (by omega) (by omega), show ((x.Waiters.length : Nat) : Int) - 1 = ((x.Waiters.length - 1 : Nat) : Int) by omega, gx_nat (lastW_get e0), if_pos rfl, owner_eq N (by omega) hpv, Option.bind_some, hm.1, if_pos hm.2, at_mid]
      simp only [Option.map_some, Option.getD_some, if_true]
      have hd : (((A ++ (⟨a, lastW x.Waiters, x.Waiters.take (x.Waiters.length - 1)⟩ : Lock) :: B).length : Nat) : Int) = ((t.length : Nat) : Int) := by rw [hlen]
      simp only [hd, decide_true, Bool.not_true, law31_LocksHandOver_J1, Bool.false_eq_true, if_false, law31_LocksHandOver_J5]
      refine ho_L3 _ t 0 rfl hlen.symm (fun i z y h1 h2 => ?_)
      rw [ht] at h2
      rcases Nat.lt_trichotomy i A.length with q | q | q
      · rw [List.getElem?_append_left q] at h1 h2
        rw [h1] at h2
        cases h2
        have := nA z (List.mem_of_getElem? h1)
        exact ⟨rfl, fun e => absurd e this, fun _ => rfl⟩
      · subst q
        rw [at_mid] at h1 h2
        cases h1; cases h2
        exact ⟨hxa.symm, fun _ => ⟨rfl, by omega, hw⟩, fun e => absurd hxa e⟩
      · rw [List.getElem?_append_right (by omega)] at h1 h2
        obtain ⟨j, hj⟩ : ∃ j, i - A.length = j + 1 := ⟨i - A.length - 1, by omega⟩
        rw [hj, List.getElem?_cons_succ] at h1 h2
        rw [h1] at h2
        cases h2
        have := nB z (List.mem_of_getElem? h1)
        exact ⟨rfl, fun e => absurd e this, fun _ => rfl⟩
  · have hr : rls t a 1 = ([], 0, 10) := by unfold rls; rw [if_neg hh]
    rw [if_neg hh, if_pos rfl, rls_eq N (by omega) h ha (by omega) (by omega), hr]
    rfl
theorem ho_L1 (N : Nat) (hN : 2000 ≤ N) {n : Int} (h0 : 0 ≤ n) (h1 : n ≤ 255) : ∀ (xs : List Act31) (v : Nat) (t : List Lock), (∀ x ∈ xs, U8B x) → VT t → law31_LocksHandOver_L1 (law31_LocksHandOver_J7 N n) N xs v t = some true
  | [], v, t, _, h => by rw [law31_LocksHandOver_L1]; exact ho_J7 N hN h h0 h1
  | x :: xs, v, t, hw, h => by
    obtain ⟨t', e, h', hl'⟩ := play_eq N (by omega) h (hw x (by simp))
    rw [law31_LocksHandOver_L1, e, Option.bind_some]
    exact ho_L1 N hN h0 h1 xs (v + 1) t' (fun y hy => hw y (by simp [hy])) h'
theorem plain_LocksHandOver (ls : List Act31) (n : Int) (hw : ∀ x ∈ ls, U8B x) (h0 : 0 ≤ n) (h1 : n ≤ 255) : law31_LocksHandOver 200000 ls n = some true := by
  rw [law31_LocksHandOver, awake31 200000 (by omega), Option.bind_some, if_pos rfl]
  split
  · rfl
  · exact ho_L1 200000 (by omega) h0 h1 ls 0 [] hw VT.nil
end Go.Proofs.Ythafflhaoplpjaa
