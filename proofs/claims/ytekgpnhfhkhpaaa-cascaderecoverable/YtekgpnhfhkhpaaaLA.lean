/- Plain facts on the models; no program in sight. -/
import Derived.Test.YtekgpnhfhkhpaaaM
set_option linter.unusedSimpArgs false
set_option linter.unusedVariables false
namespace Go.Proofs.Ytekgpnhfhkhpaaa
open Go Go.Proofs Go.Abs
def findP {α : Type} (p : α → Bool) : List α → Nat → Int
 | [], _ => -1
 | x :: xs, v => if p x = true then (v : Int) else findP p xs (v + 1)
theorem find_loop {α : Type} {L : List α → Nat → Unit → Option Int} (f : α → Option Bool) (p : α → Bool) (h0 : ∀ v, L [] v () = some (-1))
  (h1 : ∀ x xs v, L (x :: xs) v () = (f x).bind fun r => if r = true then some ((v : Nat) : Int) else L xs (v + 1) ()) :
  ∀ (xs : List α) (v : Nat), (∀ x ∈ xs, f x = some (p x)) → L xs v () = some (findP p xs v)
 | [], v, _ => by rw [h0]; rfl
 | x :: xs, v, h => by
  rw [h1, h x (by simp), Option.bind_some, find_loop f p h0 h1 xs (v + 1) (fun y hy => h y (by simp [hy]))]
  simp only [findP]
  cases p x <;> rfl
theorem findP_any {α : Type} (p : α → Bool) : ∀ (xs : List α) (v : Nat), decide (0 ≤ findP p xs v) = xs.any p
 | [], v => rfl
 | x :: xs, v => by
  simp only [findP, List.any_cons]
  by_cases h : p x = true
  ·have : (0 : Int) ≤ (v : Int) := by omega
   simp [h, this]
  ·simpa [h] using findP_any p xs (v + 1)
theorem apn_of {α β : Type} {b : Nat} {l : List α} {k : Option β} (h : l.length * (b + 1) ≤ 140737488355328) : apn b l k = k := by simp only [apn]; rw [if_pos h]
theorem apx_of {α β : Type} {b : Nat} {l l' : List α} {k : List α → Option β} (h : (l.length + l'.length) * (b + 1) ≤ 140737488355328) : apx b l l' k = k (l ++ l') := by simp only [apx]; rw [if_pos h]
end Go.Proofs.Ytekgpnhfhkhpaaa

set_option linter.unusedSimpArgs false
set_option linter.unusedVariables false
namespace Go.Proofs.Ytekgpnhfhkhpaaa
open Go Go.Proofs Go.Abs
theorem w64 {n : Int} (h1 : -9223372036854775808 ≤ n) (h2 : n ≤ 9223372036854775807) : IntKind.i64.wrap n = n := wrap64_in h1 h2
theorem take_set_succ {α : Type} {l : List α} {k : Nat} {x : α} (h : k < l.length) : (l.set k x).take (k + 1) = l.take k ++ [x] := by
 rw [List.take_add_one, List.getElem?_set]
 simp only [if_true, h, Option.toList_some]
 rw [List.take_set_of_le (Nat.le_refl k)]
theorem pair_ext {a b : Arr2_i64} (h1 : a.e0 = b.e0) (h2 : a.e1 = b.e1) : a = b := by
 cases a; cases b; simp only at h1 h2; rw [h1, h2]
theorem eqP_iff {a b : Arr2_i64} : (decide (a.e0 = b.e0) && decide (a.e1 = b.e1)) = true ↔ a = b := by
 simp only [Bool.and_eq_true, decide_eq_true_eq]
 exact ⟨fun h => pair_ext h.1 h.2, fun h => by rw [h]; exact ⟨rfl, rfl⟩⟩
instance : DecidableEq Arr2_i64 := fun a b => decidable_of_iff _ (eqP_iff (a := a) (b := b))
theorem findP_ge {α : Type} (p : α → Bool) : ∀ (xs : List α) (v : Nat), findP p xs v = -1 ∨ (v : Int) ≤ findP p xs v
 | [], v => .inl rfl
 | x :: xs, v => by
  simp only [findP]
  split
  ·exact .inr (Int.le_refl _)
  ·rcases findP_ge p xs (v + 1) with h | h
   ·exact .inl h
   ·exact .inr (by omega)
theorem index_L1 (a : Int) : ∀ (xs : List Int) (v : Nat), slices_Index_int_L1 a xs v () = some (findP (fun x => decide (a = x)) xs v)
 | [], v => rfl
 | x :: xs, v => by
  rw [slices_Index_int_L1, index_L1 a xs (v + 1)]
  simp only [findP]
  by_cases h : a = x <;> simp [h]
theorem contains_eq (N : Nat) (l : List Int) (t : Int) : slices_Contains_int N l t = some (decide (t ∈ l)) := by
 unfold slices_Contains_int slices_Index_int
 rw [index_L1, Option.bind_some, findP_any]
 congr 1
 rw [Bool.eq_iff_iff]
 simp
theorem index2_L1 (a : Arr2_i64) : ∀ (xs : List Arr2_i64) (v : Nat), slices_Index_2int_L1 a xs v () = some (findP (fun x => decide (a = x)) xs v)
 | [], v => rfl
 | x :: xs, v => by
  rw [slices_Index_2int_L1, index2_L1 a xs (v + 1)]
  simp only [findP]
  by_cases h : a = x
  ·rw [if_pos (eqP_iff.2 h), if_pos (by simpa using h)]
  ·rw [if_neg (fun q => h (eqP_iff.1 q)), if_neg (by simpa using h)]
theorem contains2_eq (N : Nat) (l : List Arr2_i64) (t : Arr2_i64) : slices_Contains_2int N l t = some (decide (t ∈ l)) := by
 unfold slices_Contains_2int slices_Index_2int
 rw [index2_L1, Option.bind_some, findP_any]
 congr 1
 rw [Bool.eq_iff_iff]
 simp
def Ended (s : cascade_state) (t : Int) : Prop := t ∈ s.committed ∨ t ∈ s.aborted
def Has (s : cascade_state) (t a : Int) : Prop := (⟨t, a⟩ : Arr2_i64) ∈ s.prepared
def Begun (s : cascade_state) (t : Int) : Prop := ∃ p ∈ s.prepared, p.e0 = t
def onL : List cascade_stack → Int → List Int
 | [], _ => []
 | x :: xs, a => if x.actor = a then x.txns else onL xs a
def Ready (s : cascade_state) (t : Int) : Prop := (∃ x ∈ s.stacks, t ∈ x.txns) ∧ ∀ x ∈ s.stacks, t ∈ x.txns → Has s t x.actor
def Lowest (s : cascade_state) (t : Int) : Prop := ∀ x ∈ s.stacks, t ∈ x.txns → x.txns.head? = some t
instance (s : cascade_state) (t : Int) : Decidable (Ended s t) := by unfold Ended; infer_instance
instance (s : cascade_state) (t a : Int) : Decidable (Has s t a) := by unfold Has; infer_instance
instance (s : cascade_state) (t : Int) : Decidable (Begun s t) := by unfold Begun; infer_instance
instance (s : cascade_state) (t : Int) : Decidable (Ready s t) := by unfold Ready; infer_instance
instance (s : cascade_state) (t : Int) : Decidable (Lowest s t) := by unfold Lowest; infer_instance
theorem ended_eq (N : Nat) (s : cascade_state) (t : Int) : cascade_state_ended N s t = some (decide (Ended s t)) := by
 simp only [cascade_state_ended, contains_eq, Option.bind_some, Ended]
 by_cases h : t ∈ s.committed <;> simp [h]
theorem has_eq (N : Nat) (s : cascade_state) (t a : Int) : cascade_state_has N s t a = some (decide (Has s t a)) := by
 simp only [cascade_state_has, contains2_eq, Option.bind_some, Has]
theorem begun_eq (N : Nat) (s : cascade_state) (t : Int) : cascade_state_begun N s t = some (decide (Begun s t)) := by
 have h : ∀ (xs : List Arr2_i64) (v : Nat), slices_IndexFunc_2int_cascade_state_begun_1_L1 N t xs v () = some (findP (fun p => decide (p.e0 = t)) xs v) := fun xs v =>
  find_loop (L := slices_IndexFunc_2int_cascade_state_begun_1_L1 N t) (fun x => cascade_state_begun_1 N x t) (fun p => decide (p.e0 = t)) (fun _ => rfl) (fun _ _ _ => rfl) xs v (fun _ _ => rfl)
 simp only [cascade_state_begun, slices_ContainsFunc_2int_cascade_state_begun_1, slices_IndexFunc_2int_cascade_state_begun_1, h, Option.bind_some, findP_any]
 congr 1
 rw [Bool.eq_iff_iff, decide_eq_true_eq]
 unfold Begun
 simp
theorem on_L1 (a : Int) : ∀ (xs : List cascade_stack) (v : Nat), cascade_state_on_L1 a xs v () = some (onL xs a)
 | [], v => rfl
 | x :: xs, v => by
  rw [cascade_state_on_L1, on_L1 a xs (v + 1), onL]
  split <;> rfl
theorem on_eq (N : Nat) (s : cascade_state) (a : Int) : cascade_state_on N s a = some (onL s.stacks a) := on_L1 a _ _
theorem ready_L1 (N : Nat) (s : cascade_state) (t : Int) : ∀ (xs : List cascade_stack) (v : Nat) (c : Bool), cascade_state_ready_L1 N t s xs v c = some (decide ((∀ x ∈ xs, t ∈ x.txns → Has s t x.actor) ∧ (c = true ∨ ∃ x ∈ xs, t ∈ x.txns)))
 | [], v, c => by simp [cascade_state_ready_L1]
 | x :: xs, v, c => by
  rw [cascade_state_ready_L1, contains_eq, has_eq, Option.bind_some, Option.bind_some, ready_L1 N s t xs, ready_L1 N s t xs]
  by_cases h1 : t ∈ x.txns <;> by_cases h2 : Has s t x.actor <;> simp [h1, h2]
theorem ready_eq (N : Nat) (s : cascade_state) (t : Int) : cascade_state_ready N s t = some (decide (Ready s t)) := by
 unfold cascade_state_ready
 rw [ready_L1]
 congr 1
 rw [Bool.eq_iff_iff, decide_eq_true_eq, decide_eq_true_eq]
 unfold Ready
 simp only [Bool.false_eq_true, false_or]
 exact And.comm
theorem low1_eq (N : Nat) (x : cascade_stack) (t : Int) : cascade_state_lowest_1 N x t = some (decide (t ∈ x.txns ∧ ¬ x.txns.head? = some t)) := by
 unfold cascade_state_lowest_1 slices_Index_int
 rw [index_L1, Option.bind_some]
 congr 1
 rw [Bool.eq_iff_iff]
 simp only [decide_eq_true_eq]
 cases x.txns with
 | nil => simp [findP]
 | cons y ys =>
  simp only [findP, decide_eq_true_eq]
  by_cases e : t = y
  ·simp [e]
  ·rw [if_neg e]
   have h2 := findP_ge (fun x => decide (t = x)) ys (0 + 1)
   have h3 := findP_any (fun x => decide (t = x)) ys (0 + 1)
   have h4 : (0 : Int) ≤ findP (fun x => decide (t = x)) ys (0 + 1) ↔ t ∈ ys := by
    rw [Bool.eq_iff_iff] at h3
    simpa using h3
   have e' : ¬ y = t := fun q => e q.symm
   simp only [List.mem_cons, List.head?_cons, Option.some.injEq, e, e', false_or, not_false_eq_true, and_true, ← h4]
   omega
theorem lowest_eq (N : Nat) (s : cascade_state) (t : Int) : cascade_state_lowest N s t = some (decide (Lowest s t)) := by
 have h : ∀ (xs : List cascade_stack) (v : Nat), slices_IndexFunc_stack_cascade_state_lowest_1_L1 N t xs v () = some (findP (fun x => decide (t ∈ x.txns ∧ ¬ x.txns.head? = some t)) xs v) := fun xs v =>
  find_loop (L := slices_IndexFunc_stack_cascade_state_lowest_1_L1 N t) (fun x => cascade_state_lowest_1 N x t) _ (fun _ => rfl) (fun _ _ _ => rfl) xs v (fun x _ => low1_eq N x t)
 simp only [cascade_state_lowest, slices_ContainsFunc_stack_cascade_state_lowest_1, slices_IndexFunc_stack_cascade_state_lowest_1, h, Option.bind_some, findP_any]
 congr 1
 rw [Bool.eq_iff_iff, decide_eq_true_eq]
 unfold Lowest
 simp
def Btw (n : Int) : Prop := 1 ≤ n ∧ n ≤ 1099511627776
instance (n : Int) : Decidable (Btw n) := by unfold Btw; infer_instance
theorem between_eq (N : Nat) (n : Int) : cascade_between N n = some (decide (Btw n)) := by
 simp only [cascade_between, Btw]
 by_cases h : 1 ≤ n <;> simp [h]
def TopOk (s : cascade_state) (e : TxnEvent) : Prop := ∀ y, (onL s.stacks e.Actor).getLast? = some y → y = e.Txn ∨ Has s y e.Actor
structure Allowed (s : cascade_state) (e : TxnEvent) : Prop where
 bt : Btw e.Txn
 un : ¬ Ended s e.Txn
 ok : (e.Kind = 1 ∧ Btw e.Actor ∧ ¬ Begun s e.Txn ∧ TopOk s e) ∨ (e.Kind = 2 ∧ Btw e.Actor ∧ e.Txn ∈ onL s.stacks e.Actor ∧ ¬ Has s e.Txn e.Actor) ∨
  (e.Kind = 3 ∧ e.Actor = 0 ∧ Ready s e.Txn ∧ Lowest s e.Txn) ∨ (e.Kind = 4 ∧ e.Actor = 0)
theorem top_eq (N : Nat) (s : cascade_state) (e : TxnEvent) (hl : (onL s.stacks e.Actor).length ≤ 1000000) : ∃ b, cascade_state_allowed_J3 (onL s.stacks e.Actor) e N s = some b ∧ (b = true ↔ TopOk s e) := by
 unfold cascade_state_allowed_J3 TopOk
 generalize onL s.stacks e.Actor = own at *
 by_cases h : own.length = 0
 ·rw [if_pos (by omega)]
  have : own = [] := List.eq_nil_of_length_eq_zero h
  exact ⟨true, rfl, by simp [this]⟩
 ·rw [if_neg (by omega), w64 (by omega) (by omega), show ((own.length : Int) - 1) = ((own.length - 1 : Nat) : Int) by omega]
  have hx : own[own.length - 1]? = some (own[own.length - 1]'(by omega)) := List.getElem?_eq_getElem (by omega)
  rw [gx_nat hx, List.getLast?_eq_getElem?, hx]
  generalize (own[own.length - 1]'(by omega)) = x
  by_cases h1 : x = e.Txn
  ·exact ⟨true, by rw [if_pos h1], by simp [h1]⟩
  ·refine ⟨decide (Has s x e.Actor), by rw [if_neg h1, has_eq]; rfl, ?_⟩
   simp [h1]
theorem allowed_eq (N : Nat) (s : cascade_state) (e : TxnEvent) (hl : (onL s.stacks e.Actor).length ≤ 1000000) : ∃ b, cascade_state_allowed N s e = some b ∧ (b = true ↔ Allowed s e) := by
 have no : ∀ {b : Bool}, b = false → ¬ Allowed s e → (b = true ↔ Allowed s e) := fun h1 h2 => by simp [h1, h2]
 unfold cascade_state_allowed
 rw [between_eq, Option.bind_some]
 by_cases hb : Btw e.Txn
 case neg => exact ⟨false, by simp [hb, cascade_state_allowed_J1], no rfl fun h => hb h.bt⟩
 rw [if_pos (by simpa using hb), ended_eq, Option.bind_some]
 by_cases hu : Ended s e.Txn
 ·exact ⟨false, by simp [hu, cascade_state_allowed_J1], no rfl fun h => h.un hu⟩
 rw [show decide (Ended s e.Txn) = false by simpa using hu]
 simp only [cascade_state_allowed_J1, Bool.false_eq_true, if_false]
 unfold cascade_state_allowed_J4
 rw [on_eq, Option.bind_some]
 by_cases k1 : e.Kind = 1
 ·rw [if_pos k1, between_eq, Option.bind_some]
  have n2 : ¬ e.Kind = 2 := by omega
  have n3 : ¬ e.Kind = 3 := by omega
  have n4 : ¬ e.Kind = 4 := by omega
  by_cases ha : Btw e.Actor
  case neg => exact ⟨false, by simp [ha, cascade_state_allowed_J2], no rfl fun h => by have := h.ok; simp [k1, n2, n3, n4, ha] at this⟩
  rw [if_pos (by simpa using ha), begun_eq, Option.bind_some]
  by_cases hg : Begun s e.Txn
  ·exact ⟨false, by simp [hg, cascade_state_allowed_J2], no rfl fun h => by have := h.ok; simp [k1, n2, n3, n4, hg] at this⟩
  rw [show decide (Begun s e.Txn) = false by simpa using hg]
  simp only [cascade_state_allowed_J2, Bool.false_eq_true, if_false]
  obtain ⟨b, e1, e2⟩ := top_eq N s e hl
  exact ⟨b, e1, e2.trans ⟨fun h => ⟨hb, hu, .inl ⟨k1, ha, hg, h⟩⟩, fun h => by have := h.ok; simp only [k1, n2, n3, n4, false_and, or_false] at this; simpa [ha, hg] using this⟩⟩
 rw [if_neg k1]
 by_cases k2 : e.Kind = 2
 ·rw [if_pos k2, between_eq, Option.bind_some]
  have n3 : ¬ e.Kind = 3 := by omega
  have n4 : ¬ e.Kind = 4 := by omega
  by_cases ha : Btw e.Actor
  case neg => exact ⟨false, by simp [ha], no rfl fun h => by have := h.ok; simp [k1, k2, n3, n4, ha] at this⟩
  rw [if_pos (by simpa using ha), contains_eq, Option.bind_some, has_eq]
  by_cases hm : e.Txn ∈ onL s.stacks e.Actor
  ·rw [if_pos (by simpa using hm)]
   refine ⟨!decide (Has s e.Txn e.Actor), rfl, ?_⟩
   simp only [Bool.not_eq_true', decide_eq_false_iff_not]
   exact ⟨fun h => ⟨hb, hu, .inr (.inl ⟨k2, ha, hm, h⟩)⟩, fun h => by rcases h.ok with q | q | q | q <;> first | exact q.2.2.2 | (exfalso; have := q.1; omega)⟩
  ·exact ⟨false, by simp [hm], no rfl fun h => by have := h.ok; simp [k1, k2, n3, n4, hm] at this⟩
 rw [if_neg k2]
 by_cases k3 : e.Kind = 3
 ·rw [if_pos k3, ready_eq, lowest_eq]
  have n4 : ¬ e.Kind = 4 := by omega
  by_cases ha : e.Actor = 0
  case neg => exact ⟨false, by simp [ha], no rfl fun h => by have := h.ok; simp [k1, k2, k3, n4, ha] at this⟩
  rw [if_pos ha, Option.bind_some, Option.bind_some]
  by_cases hr : Ready s e.Txn
  ·rw [if_pos (by simpa using hr)]
   refine ⟨decide (Lowest s e.Txn), rfl, ?_⟩
   simp only [decide_eq_true_eq]
   exact ⟨fun h => ⟨hb, hu, .inr (.inr (.inl ⟨k3, ha, hr, h⟩))⟩, fun h => by rcases h.ok with q | q | q | q <;> first | exact q.2.2.2 | (exfalso; have := q.1; omega)⟩
  ·exact ⟨false, by simp [hr], no rfl fun h => by have := h.ok; simp [k1, k2, k3, n4, hr] at this⟩
 rw [if_neg k3]
 by_cases k4 : e.Kind = 4
 ·rw [if_pos k4]
  refine ⟨decide (e.Actor = 0), rfl, ?_⟩
  simp only [decide_eq_true_eq]
  exact ⟨fun h => ⟨hb, hu, .inr (.inr (.inr ⟨k4, h⟩))⟩, fun h => by rcases h.ok with q | q | q | q <;> first | exact q.2 | (exfalso; have := q.1; omega)⟩
 ·rw [if_neg k4]
  exact ⟨false, rfl, no rfl fun h => by have := h.ok; simp [k1, k2, k3, k4] at this⟩
structure DInv (a l : List Int) (p : Int → Bool) (i j : Nat) : Prop where
 len : l.length = a.length
 ij : i < j
 jl : j ≤ a.length
 pre : l.take i = (a.take j).filter fun x => !p x
 rest : ∀ q, j ≤ q → l[q]? = a[q]?
theorem delete_loop {L : Nat → List Int × Int × Int → Option (List Int)} (f : Int → Option Bool) (p : Int → Bool) (kx : List Int → Int → Option (List Int)) (hf : ∀ x, f x = some (p x))
  (h1 : ∀ n l4 v5 v6, L (n + 1) (l4, v5, v6) = if v6 < ((l4.length : Nat) : Int) then (gx l4 v6 fun x10 => (f x10).bind fun r11 => if r11 = true then L n (l4, v5, IntKind.i64.wrap (v6 + 1)) else
   (gx l4 v5 fun x12 => L n ((l4.set ((v5).toNat) x10), (IntKind.i64.wrap (v5 + 1)), IntKind.i64.wrap (v6 + 1)))) else kx l4 v5)
  (a : List Int) (ha : a.length ≤ 100000000) : ∀ (n : Nat) (l : List Int) (i j : Nat), a.length < j + n → DInv a l p i j → ∃ l' i', DInv a l' p i' a.length ∧ L n (l, (i : Int), (j : Int)) = kx l' ((i' : Nat) : Int)
 | 0, l, i, j, hn, h => by have := h.jl; omega
 | n + 1, l, i, j, hn, h => by
  have hl := h.len; have hij := h.ij; have hj := h.jl
  rw [h1]
  by_cases hlt : j < a.length
  ·have g1 : l[j]? = some a[j] := by rw [h.rest j (Nat.le_refl _), List.getElem?_eq_getElem hlt]
   have htk : a.take (j + 1) = a.take j ++ [a[j]] := by rw [List.take_add_one, List.getElem?_eq_getElem hlt]; rfl
   rw [if_pos (by omega), gx_nat g1, hf, Option.bind_some, w64 (n := (j : Int) + 1) (by omega) (by omega), show ((j : Int) + 1) = ((j + 1 : Nat) : Int) by omega]
   cases e : p a[j] with
   | true =>
    rw [if_pos rfl]
    refine delete_loop f p kx hf h1 a ha n l i (j + 1) (by omega) ⟨hl, by omega, by omega, ?_, fun q hq => h.rest q (by omega)⟩
    rw [h.pre, htk, List.filter_append]; simp [e]
   | false =>
    have hil : i < l.length := by omega
    rw [if_neg (by simp)]
    rw [gx_nat (List.getElem?_eq_getElem hil), w64 (n := (i : Int) + 1) (by omega) (by omega), show ((i : Int) + 1) = ((i + 1 : Nat) : Int) by omega, Int.toNat_natCast]
    refine delete_loop f p kx hf h1 a ha n (l.set i a[j]) (i + 1) (j + 1) (by omega) ⟨by simp [hl], by omega, by omega, ?_, fun q hq => by rw [List.getElem?_set_ne (by omega)]; exact h.rest q (by omega)⟩
    rw [take_set_succ hil, h.pre, htk, List.filter_append]; simp [e]
  ·rw [if_neg (by omega)]
   have : j = a.length := by omega
   subst this
   exact ⟨l, i, h, rfl⟩
theorem findP_spec {α : Type} (p : α → Bool) : ∀ (xs : List α) (v : Nat), (findP p xs v = -1 ∧ ∀ x ∈ xs, p x = false) ∨ ∃ i x, xs[i]? = some x ∧ p x = true ∧ (∀ y ∈ xs.take i, p y = false) ∧ findP p xs v = ((v + i : Nat) : Int)
 | [], v => .inl ⟨rfl, by simp⟩
 | x :: xs, v => by
  simp only [findP]
  cases e : p x with
  | true => exact .inr ⟨0, x, rfl, e, by simp, by simp⟩
  | false =>
   rw [if_neg (by simp)]
   rcases findP_spec p xs (v + 1) with ⟨h1, h2⟩ | ⟨i, y, h1, h2, h3, h4⟩
   ·refine .inl ⟨h1, fun y hy => ?_⟩
    rcases List.mem_cons.1 hy with rfl | hy
    ·exact e
    ·exact h2 y hy
   ·refine .inr ⟨i + 1, y, by simpa using h1, h2, fun z hz => ?_, by rw [h4]; congr 1; omega⟩
    rw [List.take_succ_cons] at hz
    rcases List.mem_cons.1 hz with rfl | hz
    ·exact e
    ·exact h3 z hz
theorem delete_all {L : Nat → List Int × Int × Int → Option (List Int)} (f : Int → Option Bool) (p : Int → Bool) (kx : List Int → Int → Option (List Int)) (hf : ∀ x, f x = some (p x))
  (h1 : ∀ n l4 v5 v6, L (n + 1) (l4, v5, v6) = if v6 < ((l4.length : Nat) : Int) then (gx l4 v6 fun x10 => (f x10).bind fun r11 => if r11 = true then L n (l4, v5, IntKind.i64.wrap (v6 + 1)) else
   (gx l4 v5 fun x12 => L n ((l4.set ((v5).toNat) x10), (IntKind.i64.wrap (v5 + 1)), IntKind.i64.wrap (v6 + 1)))) else kx l4 v5)
  (hk : ∀ l15 v16, kx l15 v16 = slx l15 v16 ((l15.length : Nat) : Int) fun l17 => slx (clrL 0 (v16).toNat l15) 0 v16 fun l18 => some ((clrL 0 (v16).toNat l15).take ((v16).toNat)))
  (a : List Int) (ha : a.length ≤ 100000000) (N : Nat) (hN : a.length ≤ N) :
  ((some (findP p a 0)).bind fun r1 => if r1 = (-1) then (some a) else L N (a, r1, IntKind.i64.wrap (r1 + 1))) = some (a.filter fun x => !p x) := by
 rw [Option.bind_some]
 rcases findP_spec p a 0 with ⟨e1, e2⟩ | ⟨i, x, e1, e2, e3, e4⟩
 ·rw [e1, if_pos rfl, List.filter_eq_self.2 fun x hx => by rw [e2 x hx]; rfl]
 ·have hil := (List.getElem?_eq_some_iff.1 e1).1
  rw [e4, if_neg (by omega), Nat.zero_add, w64 (by omega) (by omega), show ((i : Int) + 1) = ((i + 1 : Nat) : Int) by omega]
  have hd : DInv a a p i (i + 1) := ⟨rfl, by omega, by omega, by
   rw [List.take_add_one, e1, Option.toList_some, List.filter_append, List.filter_eq_self.2 fun x hx => by rw [e3 x hx]; rfl]
   simp [e2], fun _ _ => rfl⟩
  obtain ⟨l', i', h', e'⟩ := delete_loop f p kx hf h1 a ha N a i (i + 1) (by omega) hd
  rw [e', hk]
  have q1 := h'.len; have q2 := h'.ij
  unfold slx
  rw [Int.toNat_natCast, if_pos ⟨by omega, by omega, by omega, by omega⟩]
  dsimp only
  rw [if_pos ⟨by omega, by omega, by omega, by rw [clr_len (by omega)]; omega⟩]
  try dsimp only
  rw [clr_take (by omega), h'.pre, List.take_of_length_le (Nat.le_refl _)]
theorem delEnded_eq (N : Nat) (a : List Int) (s : cascade_state) (ha : a.length ≤ 100000000) (hN : a.length ≤ N) : slices_DeleteFunc_int_cascade_state_ended N a s.stacks s.prepared s.known s.committed s.aborted s.deps = some (a.filter fun x => !decide (Ended s x)) := by
 unfold slices_DeleteFunc_int_cascade_state_ended
 have h : slices_IndexFunc_int_cascade_state_ended N a s.stacks s.prepared s.known s.committed s.aborted s.deps = some (findP (fun x => decide (Ended s x)) a 0) :=
  find_loop (L := slices_IndexFunc_int_cascade_state_ended_L1 N s.stacks s.prepared s.known s.committed s.aborted s.deps) (fun x => cascade_state_ended N s x) _ (fun _ => rfl) (fun _ _ _ => rfl) a 0 (fun x _ => ended_eq N s x)
 rw [h]
 exact delete_all (L := slices_DeleteFunc_int_cascade_state_ended_L1 N s.stacks s.prepared s.known s.committed s.aborted s.deps slices_DeleteFunc_int_cascade_state_ended_J1) (fun x => cascade_state_ended N s x) (fun x => decide (Ended s x)) _ (ended_eq N s) (fun _ _ _ _ => rfl) (fun _ _ => rfl) a ha N hN
theorem delIn_eq (N : Nat) (a k : List Int) (ha : a.length ≤ 100000000) (hN : a.length ≤ N) : slices_DeleteFunc_int_cascade_state_remove_1 N a k = some (a.filter fun x => !decide (x ∈ k)) := by
 unfold slices_DeleteFunc_int_cascade_state_remove_1
 have hp : ∀ x, cascade_state_remove_1 N x k = some (decide (x ∈ k)) := fun x => by simp only [cascade_state_remove_1, contains_eq, Option.bind_some]
 have h : slices_IndexFunc_int_cascade_state_remove_1 N a k = some (findP (fun x => decide (x ∈ k)) a 0) :=
  find_loop (L := slices_IndexFunc_int_cascade_state_remove_1_L1 N k) (fun x => cascade_state_remove_1 N x k) _ (fun _ => rfl) (fun _ _ _ => rfl) a 0 (fun x _ => hp x)
 rw [h]
 exact delete_all (L := slices_DeleteFunc_int_cascade_state_remove_1_L1 N k slices_DeleteFunc_int_cascade_state_remove_1_J1) (fun x => cascade_state_remove_1 N x k) (fun x => decide (x ∈ k)) _ hp (fun _ _ _ _ => rfl) (fun _ _ => rfl) a ha N hN
def rmX (k : List Int) (x : cascade_stack) : cascade_stack := ⟨x.actor, x.txns.filter fun t => !decide (t ∈ k)⟩
def rmS (k : List Int) (l : List cascade_stack) : List cascade_stack := l.map (rmX k)
theorem remove_L1 (N : Nat) (s : cascade_state) (k : List Int) : ∀ (m v : Nat) (l : List cascade_stack), v + m = l.length → (∀ x ∈ l, x.txns.length ≤ 100000000 ∧ x.txns.length ≤ N) →
  cascade_state_remove_L1 s N k m v l = some (cascade_state.mk (l.take v ++ rmS k (l.drop v)) s.prepared s.known s.committed s.aborted s.deps)
 | 0, v, l, hv, _ => by
  rw [cascade_state_remove_L1, List.take_of_length_le (by omega), List.drop_of_length_le (by omega)]
  simp [rmS]
 | m + 1, v, l, hv, hl => by
  have hvl : v < l.length := by omega
  have hb := hl l[v] (List.getElem_mem hvl)
  rw [cascade_state_remove_L1, gx_nat (List.getElem?_eq_getElem hvl), delIn_eq N _ k hb.1 hb.2, Option.bind_some, remove_L1 N s k m (v + 1) _ (by simp; omega) (fun x hx => ?_)]
  ·rw [take_set_succ hvl, List.drop_set_of_lt (by omega), List.drop_eq_getElem_cons hvl]
   simp only [rmS, List.map_cons, List.append_assoc, List.singleton_append]
   rfl
  ·rcases List.mem_or_eq_of_mem_set hx with h | h
   ·exact hl x h
   ·subst h
    have := List.length_filter_le (fun x => !decide (x ∈ k)) l[v].txns
    simp only
    omega
theorem remove_eq (N : Nat) (s : cascade_state) (k : List Int) (hl : ∀ x ∈ s.stacks, x.txns.length ≤ 100000000 ∧ x.txns.length ≤ N) : cascade_state_remove N s k = some { s with stacks := rmS k s.stacks } := by
 unfold cascade_state_remove
 rw [remove_L1 N s k _ 0 _ (by omega) hl]
 rfl
end Go.Proofs.Ytekgpnhfhkhpaaa

set_option linter.unusedSimpArgs false
set_option linter.unusedVariables false
namespace Go.Proofs.Ytekgpnhfhkhpaaa
open Go Go.Proofs Go.Abs
def lp (a b : Arr2_i64) : Prop := a.e0 < b.e0 ∨ (a.e0 = b.e0 ∧ a.e1 < b.e1)
def leP (a b : Arr2_i64) : Prop := ¬ lp b a
instance (a b : Arr2_i64) : Decidable (lp a b) := by unfold lp; infer_instance
theorem leP_refl (a : Arr2_i64) : leP a a := by unfold leP lp; omega
theorem lp_of {y p c : Arr2_i64} (h1 : leP y p) (h2 : leP p c) (h3 : ¬ c = p) : lp y c := by
 have h3' : ¬ (c.e0 = p.e0 ∧ c.e1 = p.e1) := fun q => h3 (pair_ext q.1 q.2)
 unfold leP lp at *
 omega
theorem cmpI_eq (N : Nat) (a b : Int) : cmp_Compare_int N a b = some (if a < b then -1 else if b < a then 1 else 0) := by
 simp only [cmp_Compare_int, cmp_isNaN_int, Option.bind_some]
 by_cases h1 : a < b
 ·simp [h1]
 ·by_cases h2 : b < a <;> simp [h1, h2]
theorem deps1_eq (N : Nat) (a b : Arr2_i64) : ∃ c, cascade_Dependencies_1 N a b = some c ∧ (c < 0 ↔ lp a b) := by
 simp only [cascade_Dependencies_1, cmpI_eq, Option.bind_some, cmp_Or_int, cmp_Or_int_L1]
 unfold lp
 by_cases h1 : a.e0 < b.e0
 ·exact ⟨-1, by simp [h1], by simp [h1]⟩
 ·by_cases h2 : b.e0 < a.e0
  ·refine ⟨1, by simp [h1, h2], by simp; omega⟩
  ·by_cases h3 : a.e1 < b.e1
   ·exact ⟨-1, by simp [h1, h2, h3], by simp; omega⟩
   ·by_cases h4 : b.e1 < a.e1
    ·exact ⟨1, by simp [h1, h2, h3, h4], by simp; omega⟩
    ·exact ⟨0, by simp [h1, h2, h3, h4], by simp; omega⟩
theorem sortP {c : Arr2_i64 → Arr2_i64 → Option Int} (hc : ∀ x y, ∃ z, c x y = some z ∧ (z < 0 ↔ lp x y)) {l : List Arr2_i64} (hl : l.length ≤ 100000) : ∃ o, sortM c l = some o ∧ o.Perm l ∧ o.Pairwise leP := by
 have hlt : ∀ x y, Go.Proofs.ltOf (fun x y => (c x y).getD 0) x y = decide (lp x y) := by
  intro x y
  obtain ⟨z, e, hz⟩ := hc x y
  simp only [Go.Proofs.ltOf, e, Option.getD_some, hz]
 obtain ⟨o, ho⟩ := sortM_ok (c := c) (l := l) (fun x y => let ⟨z, e, _⟩ := hc x y; ⟨z, e⟩) ⟨fun x => by rw [hlt]; simp [lp], fun x y z h1 h2 => by rw [hlt] at h1 h2 ⊢; simp only [decide_eq_true_eq, decide_eq_false_iff_not] at h1 h2 ⊢; unfold lp at h1 h2 ⊢; omega, fun x y z h1 h2 => by rw [hlt] at h1 h2 ⊢; simp only [decide_eq_true_eq, decide_eq_false_iff_not] at h1 h2 ⊢; unfold lp at h1 h2 ⊢; omega⟩ (by omega)
 obtain ⟨hp, hs⟩ := sortM_sorts ho
 refine ⟨o, ho, hp, hs.imp (fun {a b} q => ?_)⟩
 obtain ⟨z, e, hz⟩ := hc b a
 rw [e, Option.getD_some, hz] at q
 exact q
structure CInv (a l : List Arr2_i64) (k j : Nat) : Prop where
 len : l.length = a.length
 kj : k ≤ j
 jl : j ≤ a.length
 j1 : 1 ≤ j
 so : (l.take k).Pairwise lp
 mem : ∀ z, z ∈ l.take k ↔ z ∈ a.take j
 rest : ∀ i, j ≤ i + 1 → l[i]? = a[i]?
 kj' : k ≤ j
theorem compact_L2 (a : List Arr2_i64) (hs : a.Pairwise leP) (ha : a.length ≤ 100000) (v3 : Nat) (h1 : 1 ≤ v3) (kx : List Arr2_i64 → Int → Option (List Arr2_i64)) :
  ∀ (n : Nat) (l : List Arr2_i64) (k m : Nat), a.length < v3 + m + n → 1 ≤ m → CInv a l k (v3 + m) → k < v3 + m → ∃ l' k', CInv a l' k' a.length ∧ slices_Compact_2int_L2 a v3 kx n (l, (k : Int), (m : Int)) = kx l' ((k' : Nat) : Int)
 | 0, l, k, m, hn, hm, h, hk => by have := h.jl; omega
 | n + 1, l, k, m, hn, hm, h, hk => by
  have hl := h.len; have hj := h.jl
  rw [slices_Compact_2int_L2]
  by_cases hlt : v3 + m < a.length
  ·rw [if_pos (by omega)]
   have e1 : l[v3 + m]? = a[v3 + m]? := h.rest _ (by omega)
   have e2 : l[v3 + (m - 1)]? = a[v3 + (m - 1)]? := h.rest _ (by omega)
   have g1 : ((l.drop v3).take (a.length - v3))[m]? = some a[v3 + m] := by
    rw [List.getElem?_take_of_lt (by omega), List.getElem?_drop, e1, List.getElem?_eq_getElem hlt]
   have g2 : ((l.drop v3).take (a.length - v3))[m - 1]? = some (a[v3 + (m - 1)]'(by omega)) := by
    rw [List.getElem?_take_of_lt (by omega), List.getElem?_drop, e2, List.getElem?_eq_getElem (by omega)]
   rw [gx_nat g1, w64 (by omega) (by omega), show ((m : Int) - 1) = ((m - 1 : Nat) : Int) by omega, gx_nat g2, w64 (n := (m : Int) + 1) (by omega) (by omega), show ((m : Int) + 1) = ((m + 1 : Nat) : Int) by omega]
   have htk : ∀ z, z ∈ a.take (v3 + m + 1) ↔ z ∈ a.take (v3 + m) ∨ z = a[v3 + m] := by
    intro z
    rw [List.take_add_one, List.getElem?_eq_getElem hlt, List.mem_append, Option.toList_some, List.mem_singleton]
   have hprev : (a[v3 + (m - 1)]'(by omega)) ∈ a.take (v3 + m) := by
    refine List.mem_of_getElem? (i := v3 + (m - 1)) ?_
    rw [List.getElem?_take_of_lt (by omega), List.getElem?_eq_getElem (by omega)]
   by_cases e : a[v3 + m] = (a[v3 + (m - 1)]'(by omega))
   ·rw [if_pos (eqP_iff.2 e)]
    refine compact_L2 a hs ha v3 h1 kx n l k (m + 1) (by omega) (by omega) ⟨hl, by have := h.kj; omega, by omega, by omega, h.so, fun z => ?_, fun i hi => h.rest i (by omega), by omega⟩ (by omega)
    rw [h.mem, ← Nat.add_assoc, htk]
    constructor
    ·exact .inl
    ·rintro (q | q)
     ·exact q
     ·rw [q, e]; exact hprev
   ·rw [if_neg (fun q => e (eqP_iff.1 q))]
    have hkl : k < l.length := by omega
    rw [gx_nat (List.getElem?_eq_getElem hkl), w64 (n := (k : Int) + 1) (by omega) (by omega), show ((k : Int) + 1) = ((k + 1 : Nat) : Int) by omega, Int.toNat_natCast]
    refine compact_L2 a hs ha v3 h1 kx n (l.set k a[v3 + m]) (k + 1) (m + 1) (by omega) (by omega) ⟨by simp [hl], by omega, by omega, by omega, ?_, fun z => ?_, fun i hi => ?_, by omega⟩ (by omega)
    ·rw [take_set_succ hkl, List.pairwise_append]
     refine ⟨h.so, by simp, fun y hy z hz => ?_⟩
     obtain rfl := List.mem_singleton.1 hz
     have hy' := (h.mem y).1 hy
     obtain ⟨i, hi⟩ := List.mem_iff_getElem?.1 hy'
     have hil := (List.getElem?_eq_some_iff.1 hi).1
     simp only [List.length_take] at hil
     rw [List.getElem?_take_of_lt (by omega), List.getElem?_eq_getElem (by omega), Option.some.injEq] at hi
     have hp1 : leP (a[v3 + (m - 1)]'(by omega)) a[v3 + m] := List.pairwise_iff_getElem.1 hs _ _ (by omega) hlt (by omega)
     rcases Nat.lt_or_ge i (v3 + (m - 1)) with q | q
     ·have h1 := List.pairwise_iff_getElem.1 hs i (v3 + (m - 1)) (by omega) (by omega) q
      rw [hi] at h1
      exact lp_of h1 hp1 e
     ·have : i = v3 + (m - 1) := by omega
      subst this
      rw [hi] at hp1 e
      exact lp_of (leP_refl _) hp1 e
    ·rw [take_set_succ hkl, List.mem_append, List.mem_singleton, h.mem, ← Nat.add_assoc, htk]
    ·rw [List.getElem?_set_ne (by omega)]; exact h.rest i (by omega)
  ·rw [if_neg (by omega)]
   have : v3 + m = a.length := by omega
   rw [this] at h
   exact ⟨l, k, h, rfl⟩
theorem compact_J1 {a l : List Arr2_i64} {k : Nat} (h : CInv a l k a.length) : slices_Compact_2int_J1 l (k : Int) = some (l.take k) := by
 have h1 := h.len; have h2 := h.kj
 unfold slices_Compact_2int_J1 slx
 rw [Int.toNat_natCast, if_pos ⟨by omega, by omega, by omega, by omega⟩]
 dsimp only
 rw [if_pos ⟨by omega, by omega, by omega, by rw [clr_len (by omega)]; omega⟩]
 try dsimp only
 rw [clr_take (by omega)]
theorem compact_L1 (N : Nat) (a : List Arr2_i64) (hs : a.Pairwise leP) (ha : a.length ≤ 100000) (hN : 100002 ≤ N) : ∀ (m v : Nat), v + m = a.length → 1 ≤ v → (a.take v).Pairwise lp → ∃ r, slices_Compact_2int_L1 a N m v () = some r ∧ r.Pairwise lp ∧ ∀ z, z ∈ r ↔ z ∈ a
 | 0, v, hv, h1, hp => ⟨a, rfl, by rwa [List.take_of_length_le (by omega)] at hp, fun z => Iff.rfl⟩
 | m + 1, v, hv, h1, hp => by
  have hvl : v < a.length := by omega
  have g1 : a[v]? = some a[v] := List.getElem?_eq_getElem hvl
  have g2 : a[v - 1]? = some (a[v - 1]'(by omega)) := List.getElem?_eq_getElem (by omega)
  have hprev : (a[v - 1]'(by omega)) ∈ a.take v := by
   refine List.mem_of_getElem? (i := v - 1) ?_
   rw [List.getElem?_take_of_lt (by omega), g2]
  have htk : ∀ z, z ∈ a.take (v + 1) ↔ z ∈ a.take v ∨ z = a[v] := by
   intro z
   rw [List.take_add_one, g1, List.mem_append, Option.toList_some, List.mem_singleton]
  rw [slices_Compact_2int_L1, gx_nat g1, w64 (by omega) (by omega), show ((v : Int) - 1) = ((v - 1 : Nat) : Int) by omega, gx_nat g2]
  by_cases e : a[v] = (a[v - 1]'(by omega))
  ·rw [if_pos (eqP_iff.2 e)]
   unfold slx
   rw [if_pos ⟨by omega, by omega, by omega, by omega⟩]
   dsimp only
   have hc : CInv a a v (v + 1) := ⟨rfl, by omega, by omega, by omega, hp, fun z => by
    rw [htk]
    constructor
    ·exact .inl
    ·rintro (q | q)
     ·exact q
     ·rw [q, e]; exact hprev, fun i _ => rfl, by omega⟩
   obtain ⟨l', k', h', e'⟩ := compact_L2 a hs ha v h1 slices_Compact_2int_J1 N a v 1 (by omega) (by omega) hc (by omega)
   rw [show ((1 : Int)) = ((1 : Nat) : Int) from rfl, e', compact_J1 h']
   exact ⟨_, rfl, h'.so, fun z => by rw [h'.mem, List.take_of_length_le (Nat.le_refl _)]⟩
  ·rw [if_neg (fun q => e (eqP_iff.1 q))]
   refine compact_L1 N a hs ha hN m (v + 1) (by omega) (by omega) ?_
   rw [List.take_add_one, g1, Option.toList_some, List.pairwise_append]
   refine ⟨hp, by simp, fun y hy z hz => ?_⟩
   obtain rfl := List.mem_singleton.1 hz
   obtain ⟨i, hi⟩ := List.mem_iff_getElem?.1 hy
   have hil := (List.getElem?_eq_some_iff.1 hi).1
   simp only [List.length_take] at hil
   rw [List.getElem?_take_of_lt (by omega), List.getElem?_eq_getElem (by omega), Option.some.injEq] at hi
   have hp1 : leP (a[v - 1]'(by omega)) a[v] := List.pairwise_iff_getElem.1 hs _ _ (by omega) hvl (by omega)
   rcases Nat.lt_or_ge i (v - 1) with q | q
   ·have h1 := List.pairwise_iff_getElem.1 hs i (v - 1) (by omega) (by omega) q
    rw [hi] at h1
    exact lp_of h1 hp1 e
   ·have : i = v - 1 := by omega
    subst this
    rw [hi] at hp1 e
    exact lp_of (leP_refl _) hp1 e
theorem compact_eq (N : Nat) (hN : 100002 ≤ N) (a : List Arr2_i64) (hs : a.Pairwise leP) (ha : a.length ≤ 100000) : ∃ r, slices_Compact_2int N a = some r ∧ r.Pairwise lp ∧ ∀ z, z ∈ r ↔ z ∈ a := by
 unfold slices_Compact_2int
 by_cases h : ((a.length : Nat) : Int) < 2
 ·rw [if_pos h]
  refine ⟨a, rfl, ?_, fun z => Iff.rfl⟩
  match a, h with
  | [], _ => exact List.Pairwise.nil
  | [x], _ => simp
  | _ :: _ :: _, h => simp at h; omega
 ·rw [if_neg h]
  refine compact_L1 N a hs ha hN (a.length - 1) 1 (by omega) (by omega) ?_
  match a, h with
  | x :: xs, _ => simp
theorem lI_of {y p c : Int} (h1 : y ≤ p) (h2 : p ≤ c) (h3 : ¬ c = p) : y < c := by omega
structure CIi (a l : List Int) (k j : Nat) : Prop where
 len : l.length = a.length
 kj : k ≤ j
 jl : j ≤ a.length
 j1 : 1 ≤ j
 so : (l.take k).Pairwise (· < ·)
 mem : ∀ z, z ∈ l.take k ↔ z ∈ a.take j
 rest : ∀ i, j ≤ i + 1 → l[i]? = a[i]?
 kj' : k ≤ j
theorem compactI_L2 (a : List Int) (hs : a.Pairwise (· ≤ ·)) (ha : a.length ≤ 100000) (v3 : Nat) (h1 : 1 ≤ v3) (kx : List Int → Int → Option (List Int)) :
  ∀ (n : Nat) (l : List Int) (k m : Nat), a.length < v3 + m + n → 1 ≤ m → CIi a l k (v3 + m) → k < v3 + m → ∃ l' k', CIi a l' k' a.length ∧ slices_Compact_int_L2 a v3 kx n (l, (k : Int), (m : Int)) = kx l' ((k' : Nat) : Int)
 | 0, l, k, m, hn, hm, h, hk => by have := h.jl; omega
 | n + 1, l, k, m, hn, hm, h, hk => by
  have hl := h.len; have hj := h.jl
  rw [slices_Compact_int_L2]
  by_cases hlt : v3 + m < a.length
  ·rw [if_pos (by omega)]
   have e1 : l[v3 + m]? = a[v3 + m]? := h.rest _ (by omega)
   have e2 : l[v3 + (m - 1)]? = a[v3 + (m - 1)]? := h.rest _ (by omega)
   have g1 : ((l.drop v3).take (a.length - v3))[m]? = some a[v3 + m] := by
    rw [List.getElem?_take_of_lt (by omega), List.getElem?_drop, e1, List.getElem?_eq_getElem hlt]
   have g2 : ((l.drop v3).take (a.length - v3))[m - 1]? = some (a[v3 + (m - 1)]'(by omega)) := by
    rw [List.getElem?_take_of_lt (by omega), List.getElem?_drop, e2, List.getElem?_eq_getElem (by omega)]
   rw [gx_nat g1, w64 (by omega) (by omega), show ((m : Int) - 1) = ((m - 1 : Nat) : Int) by omega, gx_nat g2, w64 (n := (m : Int) + 1) (by omega) (by omega), show ((m : Int) + 1) = ((m + 1 : Nat) : Int) by omega]
   have htk : ∀ z, z ∈ a.take (v3 + m + 1) ↔ z ∈ a.take (v3 + m) ∨ z = a[v3 + m] := by
    intro z
    rw [List.take_add_one, List.getElem?_eq_getElem hlt, List.mem_append, Option.toList_some, List.mem_singleton]
   have hprev : (a[v3 + (m - 1)]'(by omega)) ∈ a.take (v3 + m) := by
    refine List.mem_of_getElem? (i := v3 + (m - 1)) ?_
    rw [List.getElem?_take_of_lt (by omega), List.getElem?_eq_getElem (by omega)]
   by_cases e : a[v3 + m] = (a[v3 + (m - 1)]'(by omega))
   ·rw [if_pos e]
    refine compactI_L2 a hs ha v3 h1 kx n l k (m + 1) (by omega) (by omega) ⟨hl, by have := h.kj; omega, by omega, by omega, h.so, fun z => ?_, fun i hi => h.rest i (by omega), by omega⟩ (by omega)
    rw [h.mem, ← Nat.add_assoc, htk]
    constructor
    ·exact .inl
    ·rintro (q | q)
     ·exact q
     ·rw [q, e]; exact hprev
   ·rw [if_neg e]
    have hkl : k < l.length := by omega
    rw [gx_nat (List.getElem?_eq_getElem hkl), w64 (n := (k : Int) + 1) (by omega) (by omega), show ((k : Int) + 1) = ((k + 1 : Nat) : Int) by omega, Int.toNat_natCast]
    refine compactI_L2 a hs ha v3 h1 kx n (l.set k a[v3 + m]) (k + 1) (m + 1) (by omega) (by omega) ⟨by simp [hl], by omega, by omega, by omega, ?_, fun z => ?_, fun i hi => ?_, by omega⟩ (by omega)
    ·rw [take_set_succ hkl, List.pairwise_append]
     refine ⟨h.so, by simp, fun y hy z hz => ?_⟩
     obtain rfl := List.mem_singleton.1 hz
     have hy' := (h.mem y).1 hy
     obtain ⟨i, hi⟩ := List.mem_iff_getElem?.1 hy'
     have hil := (List.getElem?_eq_some_iff.1 hi).1
     simp only [List.length_take] at hil
     rw [List.getElem?_take_of_lt (by omega), List.getElem?_eq_getElem (by omega), Option.some.injEq] at hi
     have hp1 : (a[v3 + (m - 1)]'(by omega)) ≤ a[v3 + m] := List.pairwise_iff_getElem.1 hs _ _ (by omega) hlt (by omega)
     rcases Nat.lt_or_ge i (v3 + (m - 1)) with q | q
     ·have h1 := List.pairwise_iff_getElem.1 hs i (v3 + (m - 1)) (by omega) (by omega) q
      rw [hi] at h1
      exact lI_of h1 hp1 e
     ·have : i = v3 + (m - 1) := by omega
      subst this
      rw [hi] at hp1 e
      exact lI_of (Int.le_refl _) hp1 e
    ·rw [take_set_succ hkl, List.mem_append, List.mem_singleton, h.mem, ← Nat.add_assoc, htk]
    ·rw [List.getElem?_set_ne (by omega)]; exact h.rest i (by omega)
  ·rw [if_neg (by omega)]
   have : v3 + m = a.length := by omega
   rw [this] at h
   exact ⟨l, k, h, rfl⟩
theorem compactI_J1 {a l : List Int} {k : Nat} (h : CIi a l k a.length) : slices_Compact_int_J1 l (k : Int) = some (l.take k) := by
 have h1 := h.len; have h2 := h.kj
 unfold slices_Compact_int_J1 slx
 rw [Int.toNat_natCast, if_pos ⟨by omega, by omega, by omega, by omega⟩]
 dsimp only
 rw [if_pos ⟨by omega, by omega, by omega, by rw [clr_len (by omega)]; omega⟩]
 try dsimp only
 rw [clr_take (by omega)]
theorem compactI_L1 (N : Nat) (a : List Int) (hs : a.Pairwise (· ≤ ·)) (ha : a.length ≤ 100000) (hN : 100002 ≤ N) : ∀ (m v : Nat), v + m = a.length → 1 ≤ v → (a.take v).Pairwise (· < ·) → ∃ r, slices_Compact_int_L1 a N m v () = some r ∧ r.Pairwise (· < ·) ∧ ∀ z, z ∈ r ↔ z ∈ a
 | 0, v, hv, h1, hp => ⟨a, rfl, by rwa [List.take_of_length_le (by omega)] at hp, fun z => Iff.rfl⟩
 | m + 1, v, hv, h1, hp => by
  have hvl : v < a.length := by omega
  have g1 : a[v]? = some a[v] := List.getElem?_eq_getElem hvl
  have g2 : a[v - 1]? = some (a[v - 1]'(by omega)) := List.getElem?_eq_getElem (by omega)
  have hprev : (a[v - 1]'(by omega)) ∈ a.take v := by
   refine List.mem_of_getElem? (i := v - 1) ?_
   rw [List.getElem?_take_of_lt (by omega), g2]
  have htk : ∀ z, z ∈ a.take (v + 1) ↔ z ∈ a.take v ∨ z = a[v] := by
   intro z
   rw [List.take_add_one, g1, List.mem_append, Option.toList_some, List.mem_singleton]
  rw [slices_Compact_int_L1, gx_nat g1, w64 (by omega) (by omega), show ((v : Int) - 1) = ((v - 1 : Nat) : Int) by omega, gx_nat g2]
  by_cases e : a[v] = (a[v - 1]'(by omega))
  ·rw [if_pos e]
   unfold slx
   rw [if_pos ⟨by omega, by omega, by omega, by omega⟩]
   dsimp only
   have hc : CIi a a v (v + 1) := ⟨rfl, by omega, by omega, by omega, hp, fun z => by
    rw [htk]
    constructor
    ·exact .inl
    ·rintro (q | q)
     ·exact q
     ·rw [q, e]; exact hprev, fun i _ => rfl, by omega⟩
   obtain ⟨l', k', h', e'⟩ := compactI_L2 a hs ha v h1 slices_Compact_int_J1 N a v 1 (by omega) (by omega) hc (by omega)
   rw [show ((1 : Int)) = ((1 : Nat) : Int) from rfl, e', compactI_J1 h']
   exact ⟨_, rfl, h'.so, fun z => by rw [h'.mem, List.take_of_length_le (Nat.le_refl _)]⟩
  ·rw [if_neg e]
   refine compactI_L1 N a hs ha hN m (v + 1) (by omega) (by omega) ?_
   rw [List.take_add_one, g1, Option.toList_some, List.pairwise_append]
   refine ⟨hp, by simp, fun y hy z hz => ?_⟩
   obtain rfl := List.mem_singleton.1 hz
   obtain ⟨i, hi⟩ := List.mem_iff_getElem?.1 hy
   have hil := (List.getElem?_eq_some_iff.1 hi).1
   simp only [List.length_take] at hil
   rw [List.getElem?_take_of_lt (by omega), List.getElem?_eq_getElem (by omega), Option.some.injEq] at hi
   have hp1 : (a[v - 1]'(by omega)) ≤ a[v] := List.pairwise_iff_getElem.1 hs _ _ (by omega) hvl (by omega)
   rcases Nat.lt_or_ge i (v - 1) with q | q
   ·have h1 := List.pairwise_iff_getElem.1 hs i (v - 1) (by omega) (by omega) q
    rw [hi] at h1
    exact lI_of h1 hp1 e
   ·have : i = v - 1 := by omega
    subst this
    rw [hi] at hp1 e
    exact lI_of (Int.le_refl _) hp1 e
theorem compactI_eq (N : Nat) (hN : 100002 ≤ N) (a : List Int) (hs : a.Pairwise (· ≤ ·)) (ha : a.length ≤ 100000) : ∃ r, slices_Compact_int N a = some r ∧ r.Pairwise (· < ·) ∧ ∀ z, z ∈ r ↔ z ∈ a := by
 unfold slices_Compact_int
 by_cases h : ((a.length : Nat) : Int) < 2
 ·rw [if_pos h]
  refine ⟨a, rfl, ?_, fun z => Iff.rfl⟩
  match a, h with
  | [], _ => exact List.Pairwise.nil
  | [x], _ => simp
  | _ :: _ :: _, h => simp at h; omega
 ·rw [if_neg h]
  refine compactI_L1 N a hs ha hN (a.length - 1) 1 (by omega) (by omega) ?_
  match a, h with
  | x :: xs, _ => simp
theorem bits_zero (N : Nat) : ∃ r, math_bits_Len N (IntKind.u64.wrap 0) = some r := by
 have h : IntKind.u64.wrap 0 = 0 := by decide
 have h8 : (IntKind.u8.wrap 0).toNat = 0 := by decide
 rw [h]
 simp only [math_bits_Len, math_bits_Len64, math_bits_Len64_J3, math_bits_Len64_J2]
 rw [if_neg (by decide), if_neg (by decide), if_neg (by decide)]
 unfold math_bits_Len64_J1 gxs
 rw [if_pos (by decide), h8]
 generalize hl : (((_ : List UInt8).append _).append _) = l
 have h0 : l[0]? = some 0 := by rw [← hl]; rfl
 have : (⟨l.toArray⟩ : ByteArray)[0]? = some 0 := by
  obtain ⟨x, xs, rfl⟩ : ∃ x xs, l = x :: xs := by
   cases l with
   | nil => simp at h0
   | cons x xs => exact ⟨x, xs, rfl⟩
  simp at h0
  subst h0
  rfl
 rw [this]
 exact ⟨_, rfl⟩
theorem sort_small (N : Nat) : slices_Sort_int_small (N + 1) [] = some [] := by
 obtain ⟨r, hr⟩ := bits_zero (N + 1)
 have h1 : slices_insertionSortOrdered_int_cut (N + 1) [] 0 0 = some [] := by
  simp only [slices_insertionSortOrdered_int_cut, slices_insertionSortOrdered_int_cut_L1]
  rw [if_neg (by decide)]
  rfl
 have h2 : slices_pdqsortOrdered_int_cut (N + 1) [] 0 0 r = some [] := by
  simp only [slices_pdqsortOrdered_int_cut, slices_pdqsortOrdered_int_cut_L1]
  rw [if_pos (by decide), h1]
  rfl
 unfold slices_Sort_int_small
 rw [show IntKind.u64.wrap ((([] : List Int).length : Nat) : Int) = IntKind.u64.wrap 0 from rfl, hr, Option.bind_some, show ((([] : List Int).length : Nat) : Int) = 0 from rfl, h2]
 rfl
theorem sort_eq (N : Nat) (hN : 1 ≤ N) (l : List Int) (hl : l.length ≤ 100000000) : ∃ r, slices_Sort_int N l = some r ∧ r.Perm l ∧ r.Pairwise (· ≤ ·) := by
 unfold slices_Sort_int
 cases l with
 | nil =>
  obtain ⟨n, rfl⟩ : ∃ n, N = n + 1 := ⟨N - 1, by omega⟩
  exact ⟨[], by simp [sort_small], List.Perm.refl _, List.Pairwise.nil⟩
 | cons x xs =>
  simp only [List.isEmpty_cons, Bool.false_eq_true, if_false]
  have hs : sortI (x :: xs) = some ((x :: xs).mergeSort fun x y => decide (x ≤ y)) := by unfold sortI; rw [if_pos (by omega)]
  exact ⟨_, hs, sortI_sorts hs⟩
inductive Reach (deps : List Arr2_i64) (txns : List Int) : Int → Prop
 | base {t : Int} : t ∈ txns → Reach deps txns t
 | step {d : Arr2_i64} : d ∈ deps → Reach deps txns d.e1 → Reach deps txns d.e0
def Clo (deps : List Arr2_i64) (l : List Int) : Prop := ∀ d ∈ deps, d.e1 ∈ l → d.e0 ∈ l
def outs (deps : List Arr2_i64) (l : List Int) : Nat := (deps.filter fun d => !decide (d.e0 ∈ l)).length
theorem outs_le (deps : List Arr2_i64) (l : List Int) : outs deps l ≤ deps.length := List.length_filter_le _ _
theorem filter_le {α : Type} {p q : α → Bool} (hpq : ∀ y, q y = true → p y = true) : ∀ xs : List α, (xs.filter q).length ≤ (xs.filter p).length
 | [] => Nat.le_refl _
 | z :: xs => by
  have ih := filter_le hpq xs
  simp only [List.filter_cons]
  cases hq : q z with
  | true => rw [hpq z hq]; simpa using ih
  | false => cases p z <;> simp <;> omega
theorem filter_lt {α : Type} {p q : α → Bool} (hpq : ∀ y, q y = true → p y = true) {x : α} : ∀ {l : List α}, x ∈ l → p x = true → q x = false → (l.filter q).length < (l.filter p).length
 | [], hx, _, _ => by simp at hx
 | y :: l, hx, hp, hq => by
  simp only [List.filter_cons]
  rcases List.mem_cons.1 hx with rfl | hx
  ·rw [hp, hq]
   have := filter_le hpq l
   simp; omega
  ·have ih := filter_lt hpq hx hp hq
   cases hqy : q y with
   | true => rw [hpq y hqy]; simpa using ih
   | false => cases p y <;> simp <;> omega
theorem outs_app {deps : List Arr2_i64} {l : List Int} {d : Arr2_i64} (hd : d ∈ deps) (h : d.e0 ∉ l) : outs deps (l ++ [d.e0]) < outs deps l := by
 refine filter_lt (fun y hy => ?_) hd (by simpa using h) (by simp)
 simp only [Bool.not_eq_true', decide_eq_false_iff_not] at hy ⊢
 exact fun q => hy (by simp [q])
structure CSet (deps : List Arr2_i64) (txns l : List Int) : Prop where
 nd : l.Nodup
 sub : ∀ t ∈ txns, t ∈ l
 re : ∀ t ∈ l, Reach deps txns t
 len : l.length + outs deps l ≤ txns.length + deps.length
theorem CSet.app {deps : List Arr2_i64} {txns l : List Int} (h : CSet deps txns l) {d : Arr2_i64} (hd : d ∈ deps) (h1 : d.e1 ∈ l) (h0 : d.e0 ∉ l) : CSet deps txns (l ++ [d.e0]) := by
 refine ⟨?_, fun t ht => by simp [h.sub t ht], fun t ht => ?_, ?_⟩
 ·rw [List.nodup_append]
  exact ⟨h.nd, by simp, fun a ha b hb e => h0 (by rw [List.mem_singleton.1 hb] at e; rw [← e]; exact ha)⟩
 ·rcases List.mem_append.1 ht with ht | ht
  ·exact h.re t ht
  ·rw [List.mem_singleton.1 ht]; exact .step hd (h.re _ h1)
 ·have := outs_app hd h0
  have := h.len
  simp only [List.length_append, List.length_cons, List.length_nil]
  omega
theorem closure_L2 (N : Nat) (deps : List Arr2_i64) (txns : List Int) (hsz : txns.length + deps.length ≤ 1000000) (rec7 : List Int × Bool → Option (List Int)) : ∀ (xs : List Arr2_i64) (v : Nat) (l : List Int) (c : Bool), (∀ d ∈ xs, d ∈ deps) → CSet deps txns l →
  ∃ l' c', cascade_Closure_L2 rec7 N xs v (l, c) = rec7 (l', c') ∧ CSet deps txns l' ∧ ((c' = c ∧ l' = l ∧ ∀ d ∈ xs, d.e1 ∈ l → d.e0 ∈ l) ∨ (c' = true ∧ outs deps l' < outs deps l))
 | [], v, l, c, _, h => ⟨l, c, rfl, h, .inl ⟨rfl, rfl, by simp⟩⟩
 | d :: xs, v, l, c, hx, h => by
  have hd := hx d (by simp)
  have hx' : ∀ d ∈ xs, d ∈ deps := fun d hd => hx d (by simp [hd])
  rw [cascade_Closure_L2, contains_eq, contains_eq, Option.bind_some, Option.bind_some]
  have no : (d.e1 ∈ l → d.e0 ∈ l) → ∃ l' c', cascade_Closure_L2 rec7 N xs (v + 1) (l, c) = rec7 (l', c') ∧ CSet deps txns l' ∧ ((c' = c ∧ l' = l ∧ ∀ x ∈ d :: xs, x.e1 ∈ l → x.e0 ∈ l) ∨ (c' = true ∧ outs deps l' < outs deps l)) := by
   intro hno
   obtain ⟨l', c', e1, e2, e3⟩ := closure_L2 N deps txns hsz rec7 xs (v + 1) l c hx' h
   refine ⟨l', c', e1, e2, e3.imp (fun q => ⟨q.1, q.2.1, fun x hx => ?_⟩) id⟩
   rcases List.mem_cons.1 hx with rfl | hx
   ·exact hno
   ·exact q.2.2 x hx
  by_cases h1 : d.e1 ∈ l
  ·rw [if_pos (by simpa using h1)]
   by_cases h0 : d.e0 ∈ l
   ·simp only [h0, decide_true, Bool.not_true, cascade_Closure_J1, Bool.false_eq_true, if_false]
    exact no fun _ => h0
   ·simp only [h0, decide_false, Bool.not_false, cascade_Closure_J1, if_true]
    have hlen := h.len
    rw [apx_of (by simp only [List.length_cons, List.length_nil]; omega)]
    have h' := h.app hd h1 h0
    have hlt := outs_app hd h0
    obtain ⟨l', c', e1, e2, e3⟩ := closure_L2 N deps txns hsz rec7 xs (v + 1) (l ++ [d.e0]) true hx' h'
    refine ⟨l', c', e1, e2, .inr ?_⟩
    rcases e3 with ⟨q1, q2, _⟩ | ⟨q1, q2⟩
    ·exact ⟨q1, by rw [q2]; exact hlt⟩
    ·exact ⟨q1, by omega⟩
  ·rw [if_neg (by simpa using h1)]
   simp only [cascade_Closure_J1, Bool.false_eq_true, if_false]
   exact no fun q => absurd q h1
theorem closure_L1 (N : Nat) (deps : List Arr2_i64) (txns : List Int) (hsz : txns.length + deps.length ≤ 1000000) (kx : List Int → Option (List Int)) : ∀ (n : Nat) (l : List Int), outs deps l + 2 ≤ n → CSet deps txns l →
  ∃ l', cascade_Closure_L1 N deps kx n (l, true) = kx l' ∧ CSet deps txns l' ∧ Clo deps l'
 | 0, l, hn, _ => by omega
 | n + 1, l, hn, h => by
  rw [cascade_Closure_L1, if_pos rfl]
  obtain ⟨l', c', e1, e2, e3⟩ := closure_L2 N deps txns hsz (cascade_Closure_L1 N deps kx n) deps 0 l false (fun _ h => h) h
  rw [e1]
  rcases e3 with ⟨q1, q2, q3⟩ | ⟨q1, q2⟩
  ·subst q1
   subst q2
   obtain ⟨k, rfl⟩ : ∃ k, n = k + 1 := ⟨n - 1, by omega⟩
   exact ⟨l', by rw [cascade_Closure_L1, if_neg (by simp)], e2, q3⟩
  ·subst q1
   exact closure_L1 N deps txns hsz kx n l' (by omega) e2
theorem closure_eq (N : Nat) (deps : List Arr2_i64) (txns : List Int) (hsz : txns.length + deps.length ≤ 90000) (hN : 100002 ≤ N) :
  ∃ r, cascade_Closure N deps txns = some r ∧ (∀ t, t ∈ r ↔ Reach deps txns t) ∧ r.Pairwise (· < ·) ∧ r.length ≤ txns.length + deps.length := by
 unfold cascade_Closure slices_Clone_int
 rw [apn_of (by omega), Option.bind_some]
 obtain ⟨r1, e1, p1, s1⟩ := sort_eq N (by omega) txns (by omega)
 have hl1 := p1.length_eq
 rw [e1, Option.bind_some]
 obtain ⟨r2, e2, s2, m2⟩ := compactI_eq N (by omega) r1 s1 (by omega)
 rw [e2, Option.bind_some]
 have hnd2 : r2.Nodup := s2.imp (fun {a b} h => Int.ne_of_lt h)
 have hm2 : ∀ t, t ∈ r2 ↔ t ∈ txns := fun t => (m2 t).trans p1.mem_iff
 have hl2 : r2.length ≤ txns.length := List.Nodup.length_le_of_subset hnd2 (fun t ht => (hm2 t).1 ht)
 obtain ⟨l, e3, h3, c3⟩ := closure_L1 N deps txns (by omega) (cascade_Closure_J2 N) N r2 (by have := outs_le deps r2; omega) ⟨hnd2, fun t ht => (hm2 t).2 ht, fun t ht => .base ((hm2 t).1 ht), by have := outs_le deps r2; omega⟩
 rw [e3]
 have hl3 := h3.len
 obtain ⟨r4, e4, p4, s4⟩ := sort_eq N (by omega) l (by omega)
 refine ⟨r4, by rw [cascade_Closure_J2, e4]; rfl, fun t => p4.mem_iff.trans ⟨h3.re t, fun h => ?_⟩, ?_, by rw [p4.length_eq]; omega⟩
 ·induction h with
  | base h => exact h3.sub _ h
  | step hd _ ih => exact c3 _ hd ih
 ·have hnd : r4.Nodup := p4.nodup_iff.2 h3.nd
  exact (s4.and hnd).imp fun {a b} h => Int.lt_iff_le_and_ne.2 h
end Go.Proofs.Ytekgpnhfhkhpaaa

set_option linter.unusedSimpArgs false
set_option linter.unusedVariables false
namespace Go.Proofs.Ytekgpnhfhkhpaaa
open Go Go.Proofs Go.Abs
def DistA (l : List cascade_stack) : Prop := l.Pairwise fun x y => x.actor ≠ y.actor
theorem onL_none {a : Int} : ∀ {l : List cascade_stack}, (∀ y ∈ l, y.actor ≠ a) → onL l a = []
 | [], _ => rfl
 | y :: l, h => by rw [onL, if_neg (h y (by simp)), onL_none fun z hz => h z (by simp [hz])]
theorem onL_mem {a : Int} : ∀ {l : List cascade_stack} {x : cascade_stack}, DistA l → x ∈ l → x.actor = a → onL l a = x.txns
 | y :: l, x, hd, hx, ha => by
  rw [onL]
  have hd := List.pairwise_cons.1 hd
  rcases List.mem_cons.1 hx with rfl | hx
  ·rw [if_pos ha]
  ·rw [if_neg (fun q => hd.1 x hx (q.trans ha.symm)), onL_mem hd.2 hx ha]
theorem onL_cases (l : List cascade_stack) (a : Int) : (onL l a = [] ∧ ∀ y ∈ l, y.actor ≠ a) ∨ ∃ x ∈ l, x.actor = a ∧ onL l a = x.txns := by
 induction l with
 | nil => exact .inl ⟨rfl, by simp⟩
 | cons y l ih =>
  rw [onL]
  by_cases h : y.actor = a
  ·exact .inr ⟨y, by simp, h, by rw [if_pos h]⟩
  ·rw [if_neg h]
   rcases ih with ⟨h1, h2⟩ | ⟨x, h1, h2, h3⟩
   ·refine .inl ⟨h1, fun z hz => ?_⟩
    rcases List.mem_cons.1 hz with rfl | hz
    ·exact h
    ·exact h2 z hz
   ·exact .inr ⟨x, by simp [h1], h2, h3⟩
def withA (l : List cascade_stack) (a : Int) : List cascade_stack := if ∃ x ∈ l, x.actor = a then l else l ++ [⟨a, []⟩]
def pushX (a t : Int) (x : cascade_stack) : cascade_stack := if x.actor = a then ⟨x.actor, x.txns ++ [t]⟩ else x
def pushS (l : List cascade_stack) (a t : Int) : List cascade_stack := l.map (pushX a t)
def execS (s : cascade_state) (e : TxnEvent) : cascade_state :=
 if e.Txn ∈ onL s.stacks e.Actor then s else
 {s with stacks := pushS (withA s.stacks e.Actor) e.Actor e.Txn, deps := match (onL s.stacks e.Actor).getLast? with | none => s.deps | some y => s.deps ++ [⟨e.Txn, y⟩] }
theorem push_set {a t : Int} {l : List cascade_stack} {i : Nat} {x : cascade_stack} (h : l[i]? = some x) (hx : x.actor = a) (hd : DistA l) : l.set i ⟨x.actor, x.txns ++ [t]⟩ = pushS l a t := by
 apply List.ext_getElem?
 intro j
 have hil := (List.getElem?_eq_some_iff.1 h).1
 unfold pushS
 rw [List.getElem?_map, List.getElem?_set]
 split
 ·rename_i e
  subst e
  rw [h]
  simp [pushX, hx]
 ·rename_i e
  cases hj : l[j]? with
  | none => rfl
  | some y =>
   have hjl := (List.getElem?_eq_some_iff.1 hj).1
   have : y.actor ≠ a := by
    intro q
    have hp := List.pairwise_iff_getElem.1 hd
    rw [List.getElem?_eq_getElem hil, Option.some.injEq] at h
    rw [List.getElem?_eq_getElem hjl, Option.some.injEq] at hj
    rcases Nat.lt_or_gt_of_ne e with q1 | q1
    ·have := hp i j hil hjl q1; rw [h, hj, hx, q] at this; exact this rfl
    ·have := hp j i hjl hil q1; rw [h, hj, hx, q] at this; exact this rfl
   simp [pushX, this]
theorem exec_eq (N : Nat) (s : cascade_state) (e : TxnEvent) (hd : DistA s.stacks) (hs : s.stacks.length ≤ 100000) (hl : ∀ x ∈ s.stacks, x.txns.length ≤ 100000) (hdp : s.deps.length ≤ 100000) : cascade_state_exec N s e = some (execS s e) := by
 unfold cascade_state_exec
 have hf : slices_IndexFunc_stack_cascade_state_exec_1 N s.stacks e.Kind e.Txn e.Actor = some (findP (fun x => decide (x.actor = e.Actor)) s.stacks 0) :=
  find_loop (L := slices_IndexFunc_stack_cascade_state_exec_1_L1 N e.Kind e.Txn e.Actor) (fun x => cascade_state_exec_1 N x e.Kind e.Txn e.Actor) _ (fun _ => rfl) (fun _ _ _ => rfl) _ 0 (fun _ _ => rfl)
 rw [hf, Option.bind_some]
 have key : ∀ (l : List cascade_stack) (i : Nat) (x : cascade_stack), l[i]? = some x → x.actor = e.Actor → DistA l → onL s.stacks e.Actor = x.txns → x.txns.length ≤ 100000 → (e.Txn ∈ x.txns → l = s.stacks) → l = withA s.stacks e.Actor →
   cascade_state_exec_J2 N e s l (i : Int) = some (execS s e) := by
  intro l i x h1 h2 h3 h4 h5 h6 h7
  unfold cascade_state_exec_J2
  rw [gx_nat h1, contains_eq, Option.bind_some]
  unfold execS
  rw [h4]
  by_cases hm : e.Txn ∈ x.txns
  ·rw [if_pos (by simpa using hm), if_pos hm, h6 hm]
  ·rw [if_neg (by simpa using hm), if_neg hm]
   have j1 : ∀ dp, cascade_state_exec_J1 x e l (i : Int) s dp = some { s with stacks := pushS (withA s.stacks e.Actor) e.Actor e.Txn, deps := dp } := by
    intro dp
    unfold cascade_state_exec_J1
    rw [apx_of (by simp only [List.length_cons, List.length_nil]; omega), gx_nat h1, Int.toNat_natCast, push_set h1 h2 h3, h7]
   by_cases h0 : x.txns.length = 0
   ·rw [if_neg (by omega), j1, List.eq_nil_of_length_eq_zero h0]
    rfl
   ·rw [if_pos (by omega), w64 (by omega) (by omega), show ((x.txns.length : Int) - 1) = ((x.txns.length - 1 : Nat) : Int) by omega]
    have hx : x.txns[x.txns.length - 1]? = some (x.txns[x.txns.length - 1]'(by omega)) := List.getElem?_eq_getElem (by omega)
    rw [gx_nat hx, apx_of (by simp only [List.length_cons, List.length_nil]; omega), j1, List.getLast?_eq_getElem?, hx]
 rcases findP_spec (fun x => decide (x.actor = e.Actor)) s.stacks 0 with ⟨e1, e2⟩ | ⟨i, x, e1, e2, e3, e4⟩
 ·have hno : ∀ y ∈ s.stacks, y.actor ≠ e.Actor := fun y hy => by simpa using e2 y hy
  have hw : withA s.stacks e.Actor = s.stacks ++ [⟨e.Actor, []⟩] := by
   unfold withA
   rw [if_neg (by rintro ⟨y, h1, h2⟩; exact hno y h1 h2)]
  rw [e1, if_pos (by omega), apx_of (by simp only [List.length_cons, List.length_nil]; omega)]
  refine key _ s.stacks.length ⟨e.Actor, []⟩ (by simp) rfl ?_ (onL_none hno) (by simp) (by simp) hw.symm
  unfold DistA
  rw [List.pairwise_append]
  exact ⟨hd, by simp, fun y hy z hz => by rw [List.mem_singleton.1 hz]; exact hno y hy⟩
 ·have ha : x.actor = e.Actor := by simpa using e2
  rw [e4, if_neg (by omega), Nat.zero_add]
  have hxm := List.mem_of_getElem? e1
  refine key _ i x e1 ha hd (onL_mem hd hxm ha) (hl x hxm) (fun _ => rfl) ?_
  unfold withA
  rw [if_pos ⟨x, hxm, ha⟩]
def knw (s : cascade_state) (t : Int) : List Int := if t ∈ s.known then s.known else s.known ++ [t]
inductive Step (s : cascade_state) (e : TxnEvent) : cascade_state → Prop
 | exec : e.Kind = 1 → Step s e (execS { s with known := knw s e.Txn } e)
 | prep : e.Kind = 2 → Step s e { s with known := knw s e.Txn, prepared := s.prepared ++ [⟨e.Txn, e.Actor⟩] }
 | com : e.Kind = 3 → Step s e { s with known := knw s e.Txn, committed := s.committed ++ [e.Txn], stacks := rmS [e.Txn] s.stacks }
 | abt (gone : List Int) : e.Kind = 4 → (∀ t, t ∈ gone ↔ Reach s.deps [e.Txn] t ∧ ¬ Ended s t) → gone.length ≤ 1001 →
  Step s e { s with known := knw s e.Txn, aborted := s.aborted ++ gone, stacks := rmS gone s.stacks }
structure Sz (s : cascade_state) (n : Nat) : Prop where
 kn : s.known.length ≤ n
 pr : s.prepared.length ≤ n
 co : s.committed.length ≤ n
 de : s.deps.length ≤ n
 ab : s.aborted.length ≤ n * 1001
 st : s.stacks.length ≤ n
 tx : ∀ x ∈ s.stacks, x.txns.length ≤ n
theorem knw_len (s : cascade_state) (t : Int) : (knw s t).length ≤ s.known.length + 1 := by
 unfold knw; split <;> simp
theorem withA_len (l : List cascade_stack) (a : Int) : (withA l a).length ≤ l.length + 1 := by
 unfold withA; split <;> simp
theorem withA_mem {l : List cascade_stack} {a : Int} {x : cascade_stack} (h : x ∈ withA l a) : x ∈ l ∨ (x = ⟨a, []⟩ ∧ ∀ y ∈ l, y.actor ≠ a) := by
 unfold withA at h
 split at h
 ·exact .inl h
 ·rename_i hn
  rcases List.mem_append.1 h with h | h
  ·exact .inl h
  ·exact .inr ⟨List.mem_singleton.1 h, fun y hy e => hn ⟨y, hy, e⟩⟩
theorem ab1 {a b n : Nat} (h : a ≤ n * 1001) (hb : b ≤ 1001) : a + b ≤ (n + 1) * 1001 := by
 rw [Nat.succ_mul]
 exact Nat.add_le_add h hb
theorem ab0 {a n : Nat} (h : a ≤ n * 1001) : a ≤ (n + 1) * 1001 := ab1 (b := 0) h (by omega)
theorem execS_sz {s : cascade_state} {e : TxnEvent} {n : Nat} (h : Sz s n) : Sz (execS s e) (n + 1) := by
 obtain ⟨h1, h2, h3, h4, h5, h6, h7⟩ := h
 unfold execS
 split
 ·exact ⟨by omega, by omega, by omega, by omega, ab0 h5, by omega, fun x hx => by have := h7 x hx; omega⟩
 ·refine ⟨Nat.le_succ_of_le h1, Nat.le_succ_of_le h2, Nat.le_succ_of_le h3, ?_, ab0 h5, ?_, fun x hx => ?_⟩
  ·show (match (onL s.stacks e.Actor).getLast? with | none => s.deps | some y => s.deps ++ [Arr2_i64.mk e.Txn y]).length ≤ n + 1
   split
   ·omega
   ·rw [List.length_append]; simp only [List.length_cons, List.length_nil]; omega
  ·have := withA_len s.stacks e.Actor
   simp only [pushS, List.length_map]; omega
  ·simp only [pushS, List.mem_map] at hx
   obtain ⟨y, hy, rfl⟩ := hx
   have hyl : y.txns.length ≤ n := by
    rcases withA_mem hy with hy | ⟨rfl, _⟩
    ·exact h7 y hy
    ·simp
   unfold pushX
   split <;> simp <;> omega
theorem rmS_mem {k : List Int} {l : List cascade_stack} {x : cascade_stack} : x ∈ rmS k l ↔ ∃ y ∈ l, x = rmX k y := by
 simp only [rmS, List.mem_map]
 constructor
 ·rintro ⟨y, h1, h2⟩; exact ⟨y, h1, h2.symm⟩
 ·rintro ⟨y, h1, h2⟩; exact ⟨y, h1, h2.symm⟩
theorem rmX_txns (k : List Int) (x : cascade_stack) : (rmX k x).txns = x.txns.filter fun t => !decide (t ∈ k) := rfl
theorem mem_rmX {k : List Int} {x : cascade_stack} {t : Int} : t ∈ (rmX k x).txns ↔ t ∈ x.txns ∧ t ∉ k := by
 rw [rmX_txns, List.mem_filter]; simp
theorem step_sz {s s' : cascade_state} {e : TxnEvent} {n : Nat} (h : Sz s n) (hs : Step s e s') : Sz s' (n + 1) := by
 have hk := knw_len s e.Txn
 cases hs with
 | exec _ =>
  have : Sz { s with known := knw s e.Txn } (n + 1) → True := fun _ => trivial
  have h1 := execS_sz (s := s) (e := e) h
  have hk' := h.kn
  have e1 : (execS { s with known := knw s e.Txn } e).known = knw s e.Txn := by unfold execS; split <;> rfl
  have e2 : (execS { s with known := knw s e.Txn } e).prepared = (execS s e).prepared := by unfold execS; split <;> rfl
  have e3 : (execS { s with known := knw s e.Txn } e).committed = (execS s e).committed := by unfold execS; split <;> rfl
  have e4 : (execS { s with known := knw s e.Txn } e).deps = (execS s e).deps := by unfold execS; split <;> rfl
  have e5 : (execS { s with known := knw s e.Txn } e).aborted = (execS s e).aborted := by unfold execS; split <;> rfl
  have e6 : (execS { s with known := knw s e.Txn } e).stacks = (execS s e).stacks := by unfold execS; split <;> rfl
  exact ⟨by rw [e1]; omega, by rw [e2]; exact h1.pr, by rw [e3]; exact h1.co, by rw [e4]; exact h1.de, by rw [e5]; exact h1.ab, by rw [e6]; exact h1.st, by rw [e6]; exact h1.tx⟩
 | prep _ =>
  obtain ⟨h1, h2, h3, h4, h5, h6, h7⟩ := h
  exact ⟨by show (knw s e.Txn).length ≤ _; omega, by show (s.prepared ++ [_]).length ≤ _; rw [List.length_append]; simp only [List.length_cons, List.length_nil]; omega, Nat.le_succ_of_le h3, Nat.le_succ_of_le h4, ab0 h5, Nat.le_succ_of_le h6, fun x hx => by have := h7 x hx; omega⟩
 | com _ =>
  obtain ⟨h1, h2, h3, h4, h5, h6, h7⟩ := h
  refine ⟨by show (knw s e.Txn).length ≤ _; omega, Nat.le_succ_of_le h2, by show (s.committed ++ [_]).length ≤ _; rw [List.length_append]; simp only [List.length_cons, List.length_nil]; omega, Nat.le_succ_of_le h4, ab0 h5, by show (rmS _ _).length ≤ _; unfold rmS; rw [List.length_map]; omega, fun x hx => ?_⟩
  obtain ⟨y, hy, rfl⟩ := rmS_mem.1 hx
  have := h7 y hy
  have := List.length_filter_le (fun t => !decide (t ∈ [e.Txn])) y.txns
  rw [rmX_txns]; omega
 | abt gone _ _ hg =>
  obtain ⟨h1, h2, h3, h4, h5, h6, h7⟩ := h
  refine ⟨by show (knw s e.Txn).length ≤ _; omega, Nat.le_succ_of_le h2, Nat.le_succ_of_le h3, Nat.le_succ_of_le h4, by show (s.aborted ++ gone).length ≤ _; rw [List.length_append]; exact ab1 h5 hg, by show (rmS _ _).length ≤ _; unfold rmS; rw [List.length_map]; omega, fun x hx => ?_⟩
  obtain ⟨y, hy, rfl⟩ := rmS_mem.1 hx
  have := h7 y hy
  have := List.length_filter_le (fun t => !decide (t ∈ gone)) y.txns
  rw [rmX_txns]; omega
theorem onL_len {s : cascade_state} {n : Nat} (h : Sz s n) (a : Int) : (onL s.stacks a).length ≤ n := by
 rcases onL_cases s.stacks a with ⟨h1, _⟩ | ⟨x, h1, _, h2⟩
 ·rw [h1]; simp
 ·rw [h2]; exact h.tx x h1
theorem apply_eq (N : Nat) (hN : 100002 ≤ N) (s : cascade_state) (e : TxnEvent) {n : Nat} (h : Sz s n) (hn : n ≤ 1000) (hd : DistA s.stacks) (ha : Allowed s e) : ∃ s', cascade_state_apply N s e = some s' ∧ Step s e s' := by
 obtain ⟨h1, h2, h3, h4, h5, h6, h7⟩ := h
 have hk := knw_len s e.Txn
 unfold cascade_state_apply
 rw [contains_eq, Option.bind_some]
 have hJ : ∃ s', cascade_state_apply_J1 e N s (knw s e.Txn) = some s' ∧ Step s e s' := by
  unfold cascade_state_apply_J1
  by_cases k1 : e.Kind = 1
  ·rw [if_pos k1]
   have := exec_eq N { s with known := knw s e.Txn } e hd (by simp only; omega) (fun x hx => by have := h7 x hx; omega) (by simp only; omega)
   rw [this]
   exact ⟨_, rfl, .exec k1⟩
  rw [if_neg k1]
  by_cases k2 : e.Kind = 2
  ·rw [if_pos k2, apx_of (by simp only [List.length_cons, List.length_nil]; omega)]
   exact ⟨_, rfl, .prep k2⟩
  rw [if_neg k2]
  by_cases k3 : e.Kind = 3
  ·rw [if_pos k3, apx_of (by simp only [List.length_cons, List.length_nil]; omega), remove_eq N _ _ (fun x hx => by have := h7 x hx; omega)]
   exact ⟨_, rfl, .com k3⟩
  rw [if_neg k3]
  by_cases k4 : e.Kind = 4
  ·obtain ⟨r, e1, e2, e3, e4⟩ := closure_eq N s.deps [e.Txn] (by simp only [List.length_cons, List.length_nil]; omega) hN
   simp only [List.length_cons, List.length_nil] at e4
   have hf := List.length_filter_le (fun x => !decide (Ended s x)) r
   rw [if_pos k4, e1, Option.bind_some]
   have := delEnded_eq N r { s with known := knw s e.Txn } (by omega) (by omega)
   simp only at this
   rw [this, Option.bind_some]
   have hends : ∀ x, Ended { s with known := knw s e.Txn } x ↔ Ended s x := fun x => Iff.rfl
   have hff : (r.filter fun x => !decide (Ended { s with known := knw s e.Txn } x)) = r.filter fun x => !decide (Ended s x) := rfl
   rw [hff, apx_of (by omega), remove_eq N _ _ (fun x hx => by have := h7 x hx; omega)]
   refine ⟨_, rfl, .abt _ k4 (fun t => ?_) (by omega)⟩
   rw [List.mem_filter, e2]
   simp
  ·exfalso
   rcases ha.ok with q | q | q | q
   ·exact k1 q.1
   ·exact k2 q.1
   ·exact k3 q.1
   ·exact k4 q.1
 by_cases hm : e.Txn ∈ s.known
 ·rw [if_pos (by simpa using hm)]
  have : knw s e.Txn = s.known := by unfold knw; rw [if_pos hm]
  rw [this] at hJ
  exact hJ
 ·rw [if_neg (by simpa using hm), apx_of (by simp only [List.length_cons, List.length_nil]; omega)]
  have : knw s e.Txn = s.known ++ [e.Txn] := by unfold knw; rw [if_neg hm]
  rw [this] at hJ
  exact hJ
def V (N : Nat) (h : List TxnEvent) (s : cascade_state) : Prop := cascade_run N h = some (s, -1)
theorem run_app (N : Nat) (ys : List TxnEvent) : ∀ (xs : List TxnEvent) (v : Nat) (s : cascade_state), cascade_run_L1 N (xs ++ ys) v (s.stacks, s.prepared, s.known, s.committed, s.aborted, s.deps) =
  (cascade_run_L1 N xs v (s.stacks, s.prepared, s.known, s.committed, s.aborted, s.deps)).bind fun r => if r.2 = -1 then cascade_run_L1 N ys (v + xs.length) (r.1.stacks, r.1.prepared, r.1.known, r.1.committed, r.1.aborted, r.1.deps) else some r
 | [], v, s => by simp [cascade_run_L1]
 | x :: xs, v, s => by
  rw [List.cons_append, cascade_run_L1, cascade_run_L1]
  cases cascade_state_allowed N s x with
  | none => rfl
  | some b =>
   rw [Option.bind_some, Option.bind_some]
   cases b with
   | false =>
    simp only [Bool.false_eq_true, if_false, Option.bind_some]
    rw [if_neg (by omega)]
   | true =>
    simp only [if_true]
    cases cascade_state_apply N s x with
    | none => rfl
    | some s1 =>
     rw [Option.bind_some, Option.bind_some, run_app N ys xs (v + 1) s1, show v + 1 + xs.length = v + (x :: xs).length by simp; omega]
theorem run_snoc {N : Nat} {h : List TxnEvent} {s : cascade_state} (hv : V N h s) (e : TxnEvent) : cascade_run N (h ++ [e]) = (cascade_state_allowed N s e).bind fun b => if b = true then (cascade_state_apply N s e).bind fun s' => some (s', -1) else some (s, (h.length : Int)) := by
 have := run_app N [e] h 0 ⟨[], [], [], [], [], []⟩
 unfold cascade_run
 simp only at this
 rw [this]
 unfold V cascade_run at hv
 rw [hv, Option.bind_some, if_pos rfl, cascade_run_L1, Nat.zero_add]
 rfl
inductive Chain (N : Nat) : List TxnEvent → cascade_state → Prop
 | nil : Chain N [] ⟨[], [], [], [], [], []⟩
 | snoc {h : List TxnEvent} {s s' : cascade_state} {e : TxnEvent} : Chain N h s → Allowed s e → Step s e s' → V N (h ++ [e]) s' → Chain N (h ++ [e]) s'
theorem Chain.v {N : Nat} {h : List TxnEvent} {s : cascade_state} (c : Chain N h s) : V N h s := by
 cases c with
 | nil => rfl
 | snoc _ _ _ h => exact h
theorem Chain.sz {N : Nat} {h : List TxnEvent} {s : cascade_state} (c : Chain N h s) : Sz s h.length := by
 induction c with
 | nil => exact ⟨by simp, by simp, by simp, by simp, by simp, by simp, by simp⟩
 | snoc _ _ hs _ ih =>
  rw [List.length_append]
  exact step_sz ih hs
theorem rm_dist {k : List Int} {l : List cascade_stack} (h : DistA l) : DistA (rmS k l) := List.pairwise_map.2 h
theorem withA_dist {l : List cascade_stack} {a : Int} (h : DistA l) : DistA (withA l a) := by
 unfold withA
 split
 ·exact h
 ·rename_i hn
  unfold DistA
  rw [List.pairwise_append]
  exact ⟨h, by simp, fun y hy z hz => by rw [List.mem_singleton.1 hz]; exact fun q => hn ⟨y, hy, q⟩⟩
theorem pushX_actor (a t : Int) (x : cascade_stack) : (pushX a t x).actor = x.actor := by unfold pushX; split <;> rfl
theorem push_dist {l : List cascade_stack} {a t : Int} (h : DistA l) : DistA (pushS l a t) := by
 refine List.pairwise_map.2 (h.imp fun {x y} q => ?_)
 rw [pushX_actor, pushX_actor]
 exact q
theorem step_dist {s s' : cascade_state} {e : TxnEvent} (h : DistA s.stacks) (hs : Step s e s') : DistA s'.stacks := by
 cases hs with
 | exec _ =>
  unfold execS
  split
  ·exact h
  ·exact push_dist (withA_dist h)
 | prep _ => exact h
 | com _ => exact rm_dist h
 | abt _ _ _ _ => exact rm_dist h
theorem Chain.dist {N : Nat} {h : List TxnEvent} {s : cascade_state} (c : Chain N h s) : DistA s.stacks := by
 induction c with
 | nil => exact List.Pairwise.nil
 | snoc _ _ hs _ ih => exact step_dist ih hs
theorem Chain.add {N : Nat} (hN : 100002 ≤ N) {h : List TxnEvent} {s : cascade_state} (c : Chain N h s) (hl : h.length ≤ 1000) {e : TxnEvent} (ha : Allowed s e) : ∃ s', Chain N (h ++ [e]) s' ∧ Step s e s' := by
 obtain ⟨s', e1, e2⟩ := apply_eq N hN s e c.sz hl c.dist ha
 obtain ⟨b, e3, e4⟩ := allowed_eq N s e (by have := onL_len c.sz e.Actor; omega)
 rw [e4.2 ha] at e3
 have hv : V N (h ++ [e]) s' := by unfold V; rw [run_snoc c.v, e3, Option.bind_some, if_pos rfl, e1]; rfl
 exact ⟨s', .snoc c ha e2 hv, e2⟩
theorem check_eq {N : Nat} {h : List TxnEvent} {s : cascade_state} (c : V N h s) : cascade_Check N h = some (0, true) := by
 unfold cascade_Check
 unfold V at c
 rw [c, Option.bind_some, if_neg (by simp)]
theorem check_snoc {N : Nat} (hN : 100002 ≤ N) {h : List TxnEvent} {s : cascade_state} (c : Chain N h s) (hl : h.length ≤ 1000) (e : TxnEvent) : (Allowed s e ∧ cascade_Check N (h ++ [e]) = some (0, true)) ∨ (¬ Allowed s e ∧ ∃ k, cascade_Check N (h ++ [e]) = some (k, false)) := by
 obtain ⟨b, e3, e4⟩ := allowed_eq N s e (by have := onL_len c.sz e.Actor; omega)
 by_cases ha : Allowed s e
 ·obtain ⟨s', c', _⟩ := c.add hN hl ha
  exact .inl ⟨ha, check_eq c'.v⟩
 ·refine .inr ⟨ha, h.length, ?_⟩
  have : b = false := by cases b with
   | false => rfl
   | true => exact absurd (e4.1 rfl) ha
  unfold cascade_Check
  rw [run_snoc c.v, e3, this, Option.bind_some]
  simp only [Bool.false_eq_true, if_false, Option.bind_some]
  rw [if_pos (by omega)]
end Go.Proofs.Ytekgpnhfhkhpaaa

set_option linter.unusedSimpArgs false
set_option linter.unusedVariables false
namespace Go.Proofs.Ytekgpnhfhkhpaaa
open Go Go.Proofs Go.Abs
theorem two_mem {u v : Int} : ∀ {l : List Int}, u ∈ l → v ∈ l → u ≠ v → [u, v].Sublist l ∨ [v, u].Sublist l
 | x :: l, hu, hv, hn => by
  rcases List.mem_cons.1 hu with e1 | hu'
  ·rcases List.mem_cons.1 hv with e2 | hv'
   ·exact absurd (e1.trans e2.symm) hn
   ·rw [e1]; exact .inl (.cons_cons _ (List.singleton_sublist.2 hv'))
  ·rcases List.mem_cons.1 hv with e2 | hv'
   ·rw [e2]; exact .inr (.cons_cons _ (List.singleton_sublist.2 hu'))
   ·exact (two_mem hu' hv' hn).imp (.cons _) (.cons _)
theorem pair_sub {R : Int → Int → Prop} {l : List Int} (h : l.Pairwise R) {u v : Int} (hs : [u, v].Sublist l) : R u v := by
 have := h.sublist hs
 simpa using this
theorem sub_snoc {u v : Int} {l : List Int} (h : u ∈ l) : [u, v].Sublist (l ++ [v]) := by
 have := (List.singleton_sublist.2 h).append (List.Sublist.refl [v])
 simpa using this
theorem sub_filter {u v : Int} {l : List Int} {p : Int → Bool} (h : [u, v].Sublist l) (hu : p u = true) (hv : p v = true) : [u, v].Sublist (l.filter p) := by
 have := h.filter p
 simpa [hu, hv] using this
def bIdx (s : cascade_state) (t : Int) : Nat := s.prepared.findIdx fun p => decide (p.e0 = t)
theorem bIdx_le (s : cascade_state) (t : Int) : bIdx s t ≤ s.prepared.length := List.findIdx_le_length
theorem bIdx_lt {s : cascade_state} {t : Int} (h : Begun s t) : bIdx s t < s.prepared.length := by
 obtain ⟨p, hp, e⟩ := h
 exact List.findIdx_lt_length_of_exists ⟨p, hp, by simpa using e⟩
theorem bIdx_eq {s : cascade_state} {t : Int} (h : ¬ Begun s t) : bIdx s t = s.prepared.length := by
 refine List.findIdx_eq_length_of_false fun p hp => ?_
 have : ¬ p.e0 = t := fun e => h ⟨p, hp, e⟩
 simpa using this
theorem Has.begun {s : cascade_state} {t a : Int} (h : Has s t a) : Begun s t := ⟨_, h, rfl⟩
theorem bIdx_app {s s' : cascade_state} {p : Arr2_i64} (hp : s'.prepared = s.prepared ++ [p]) {u v : Int} (h : bIdx s u < bIdx s v) : bIdx s' u < bIdx s' v := by
 have hv := bIdx_le s v
 unfold bIdx at *
 rw [hp, List.findIdx_append, List.findIdx_append, if_pos (by omega)]
 split <;> omega
theorem Has.app {s s' : cascade_state} {p : Arr2_i64} (hp : s'.prepared = s.prepared ++ [p]) {t a : Int} (h : Has s t a) : Has s' t a := by
 unfold Has at *; rw [hp]; simp [h]
def J (s : cascade_state) (a u v : Int) : Prop := u = v ∨ u ∈ s.aborted ∨ v ∈ s.aborted ∨ s.committed.idxOf u < s.committed.idxOf v ∨
 (¬ Ended s u ∧ ¬ Ended s v ∧ ∃ x ∈ s.stacks, x.actor = a ∧ [u, v].Sublist x.txns)
structure KI (h : List TxnEvent) (s : cascade_state) : Prop where
 dist : DistA s.stacks
 un : ∀ x ∈ s.stacks, ∀ t ∈ x.txns, ¬ Ended s t
 kn : ∀ x ∈ s.stacks, ∀ t ∈ x.txns, t ∈ s.known
 knd : s.known.Nodup
 bt : ∀ t ∈ s.known, Btw t
 dk : ∀ d ∈ s.deps, d.e0 ∈ s.known
 ord : ∀ x ∈ s.stacks, x.txns.Pairwise fun u v => Has s u x.actor ∧ bIdx s u < bIdx s v
 dord : ∀ d ∈ s.deps, bIdx s d.e1 < bIdx s d.e0
 dst : ∀ d ∈ s.deps, ¬ Ended s d.e0 → ¬ Ended s d.e1 → ∃ x ∈ s.stacks, [d.e1, d.e0].Sublist x.txns
 dco : ∀ d ∈ s.deps, d.e0 ∈ s.committed → d.e1 ∈ s.committed
 dab : ∀ d ∈ s.deps, d.e1 ∈ s.aborted → d.e0 ∈ s.aborted
 dis : ∀ t ∈ s.committed, t ∉ s.aborted
 hk : ∀ e ∈ h, e.Txn ∈ s.known
 xs : ∀ e ∈ h, e.Kind = 1 → Ended s e.Txn ∨ ∃ x ∈ s.stacks, x.actor = e.Actor ∧ e.Txn ∈ x.txns
 ser : h.Pairwise fun e1 e2 => e1.Kind = 1 → e2.Kind = 1 → e1.Actor = e2.Actor → J s e1.Actor e1.Txn e2.Txn
theorem knw_mem {s : cascade_state} {t u : Int} : u ∈ knw s t ↔ u ∈ s.known ∨ u = t := by
 unfold knw
 split
 ·rename_i h
  exact ⟨.inl, fun q => q.elim id fun e => e ▸ h⟩
 ·simp
theorem knw_nodup {s : cascade_state} {t : Int} (h : s.known.Nodup) : (knw s t).Nodup := by
 unfold knw
 split
 ·exact h
 ·rename_i hn
  rw [List.nodup_append]
  exact ⟨h, by simp, fun a ha b hb e => hn (by rw [List.mem_singleton.1 hb] at e; exact e ▸ ha)⟩
theorem idxOf_none {l : List Int} {t : Int} (h : t ∉ l) : l.idxOf t = l.length := List.idxOf_eq_length h
theorem idxOf_some {l : List Int} {t : Int} (h : t ∈ l) : l.idxOf t < l.length := List.idxOf_lt_length_of_mem h
theorem nodup_ord {s : cascade_state} {x : cascade_stack} (h : x.txns.Pairwise fun u v => Has s u x.actor ∧ bIdx s u < bIdx s v) : x.txns.Nodup := h.imp fun {a b} q e => by rw [e] at q; omega
theorem low_no {l : List Int} {u t : Int} (hn : l.Nodup) (hs : [u, t].Sublist l) (hh : l.head? = some t) : False := by
 cases l with
 | nil => simp at hh
 | cons x l =>
  simp only [List.head?_cons, Option.some.injEq] at hh
  subst hh
  have hn := List.nodup_cons.1 hn
  cases hs with
  | cons _ h => exact hn.1 (h.subset (by simp))
  | cons_cons _ h => exact hn.1 (h.subset (by simp))
theorem KI.rm {h : List TxnEvent} {s s' : cascade_state} {e : TxnEvent} (q : KI h s) (k : List Int) (hb : Btw e.Txn) (hst : s'.stacks = rmS k s.stacks) (hpr : s'.prepared = s.prepared) (hde : s'.deps = s.deps) (hkn : s'.known = knw s e.Txn)
  (hen : ∀ u, Ended s' u ↔ Ended s u ∨ u ∈ k) (hdco : ∀ d ∈ s.deps, d.e0 ∈ s'.committed → d.e1 ∈ s'.committed) (hdab : ∀ d ∈ s.deps, d.e1 ∈ s'.aborted → d.e0 ∈ s'.aborted) (hdis : ∀ t ∈ s'.committed, t ∉ s'.aborted)
  (hJ : ∀ a u v, J s a u v → J s' a u v) (hk1 : ¬ e.Kind = 1) : KI (h ++ [e]) s' := by
 have hbi : ∀ u, bIdx s' u = bIdx s u := fun u => by unfold bIdx; rw [hpr]
 have hhas : ∀ u a, Has s' u a ↔ Has s u a := fun u a => by unfold Has; rw [hpr]
 have hmem : ∀ {x}, x ∈ s'.stacks → ∃ y ∈ s.stacks, x = rmX k y := fun hx => rmS_mem.1 (hst ▸ hx)
 refine ⟨hst ▸ rm_dist q.dist, ?_, ?_, hkn ▸ knw_nodup q.knd, ?_, ?_, ?_, ?_, ?_, hde ▸ hdco, hde ▸ hdab, hdis, ?_, ?_, ?_⟩
 ·intro x hx t ht he
  obtain ⟨y, hy, rfl⟩ := hmem hx
  obtain ⟨h1, h2⟩ := mem_rmX.1 ht
  rcases (hen t).1 he with he | he
  ·exact q.un y hy t h1 he
  ·exact h2 he
 ·intro x hx t ht
  obtain ⟨y, hy, rfl⟩ := hmem hx
  rw [hkn, knw_mem]
  exact .inl (q.kn y hy t (mem_rmX.1 ht).1)
 ·intro t ht
  rw [hkn, knw_mem] at ht
  rcases ht with ht | rfl
  ·exact q.bt t ht
  ·exact hb
 ·intro d hd
  rw [hkn, knw_mem]
  exact .inl (q.dk d (hde ▸ hd))
 ·intro x hx
  obtain ⟨y, hy, rfl⟩ := hmem hx
  rw [rmX_txns]
  exact ((q.ord y hy).filter _).imp fun {a b} w => by rw [hhas, hbi, hbi]; exact w
 ·intro d hd
  rw [hbi, hbi]
  exact q.dord d (hde ▸ hd)
 ·intro d hd h0 h1
  rw [hen] at h0 h1
  obtain ⟨x, hx, hsb⟩ := q.dst d (hde ▸ hd) (fun w => h0 (.inl w)) (fun w => h1 (.inl w))
  refine ⟨rmX k x, by rw [hst]; exact rmS_mem.2 ⟨x, hx, rfl⟩, ?_⟩
  rw [rmX_txns]
  have g0 : d.e0 ∉ k := fun w => h0 (.inr w)
  have g1 : d.e1 ∉ k := fun w => h1 (.inr w)
  exact sub_filter hsb (by simpa using g1) (by simpa using g0)
 ·intro f hf
  rw [hkn, knw_mem]
  rcases List.mem_append.1 hf with hf | hf
  ·exact .inl (q.hk f hf)
  ·exact .inr (by rw [List.mem_singleton.1 hf])
 ·intro f hf hf1
  rcases List.mem_append.1 hf with hf | hf
  ·rcases q.xs f hf hf1 with w | ⟨x, hx, ha, ht⟩
   ·exact .inl ((hen _).2 (.inl w))
   ·by_cases hm : f.Txn ∈ k
    ·exact .inl ((hen _).2 (.inr hm))
    ·exact .inr ⟨rmX k x, by rw [hst]; exact rmS_mem.2 ⟨x, hx, rfl⟩, ha, mem_rmX.2 ⟨ht, hm⟩⟩
  ·rw [List.mem_singleton.1 hf] at hf1; exact absurd hf1 hk1
 ·rw [List.pairwise_append]
  refine ⟨q.ser.imp fun {a b} w h1 h2 h3 => hJ _ _ _ (w h1 h2 h3), by simp, fun f hf g hg h1 h2 => ?_⟩
  rw [List.mem_singleton.1 hg] at h2; exact absurd h2 hk1
theorem push_cases {l : List cascade_stack} {a t : Int} (hd : DistA l) {x : cascade_stack} (h : x ∈ pushS (withA l a) a t) : (x ∈ l ∧ x.actor ≠ a) ∨ x = ⟨a, onL l a ++ [t]⟩ := by
 obtain ⟨y, hy, rfl⟩ := List.mem_map.1 h
 rcases withA_mem hy with hy | ⟨rfl, hn⟩
 ·by_cases e : y.actor = a
  ·refine .inr ?_
   unfold pushX
   rw [if_pos e, onL_mem hd hy e, e]
  ·refine .inl ?_
   unfold pushX
   rw [if_neg e]
   exact ⟨hy, e⟩
 ·refine .inr ?_
  unfold pushX
  rw [if_pos rfl, onL_none hn]
theorem push_keep {l : List cascade_stack} {a t : Int} {x : cascade_stack} (h : x ∈ l) (e : x.actor ≠ a) : x ∈ pushS (withA l a) a t := by
 refine List.mem_map.2 ⟨x, ?_, by unfold pushX; rw [if_neg e]⟩
 unfold withA
 split
 ·exact h
 ·simp [h]
theorem push_here {l : List cascade_stack} (a t : Int) (hd : DistA l) : (⟨a, onL l a ++ [t]⟩ : cascade_stack) ∈ pushS (withA l a) a t := by
 rcases onL_cases l a with ⟨h1, h2⟩ | ⟨x, h1, h2, h3⟩
 ·rw [h1]
  refine List.mem_map.2 ⟨⟨a, []⟩, ?_, by unfold pushX; rw [if_pos rfl]⟩
  unfold withA
  rw [if_neg (by rintro ⟨y, q1, q2⟩; exact h2 y q1 q2)]
  simp
 ·refine List.mem_map.2 ⟨x, ?_, by unfold pushX; rw [if_pos h2, h3, h2]⟩
  unfold withA
  rw [if_pos ⟨x, h1, h2⟩]
  exact h1
theorem KI.exec {h : List TxnEvent} {s : cascade_state} {e : TxnEvent} (q : KI h s) (ha : Allowed s e) (k1 : e.Kind = 1) : KI (h ++ [e]) (execS { s with known := knw s e.Txn } e) := by
 have hnb : ¬ Begun s e.Txn ∧ TopOk s e := by
  rcases ha.ok with w | w | w | w
  ·exact w.2.2
  ·exfalso; have := w.1; omega
  ·exfalso; have := w.1; omega
  ·exfalso; have := w.1; omega
 obtain ⟨hnb, htop⟩ := hnb
 have hnc : e.Txn ∉ s.committed := fun w => ha.un (.inl w)
 have hprev : ∀ f ∈ h, f.Kind = 1 → f.Actor = e.Actor → f.Txn = e.Txn ∨ f.Txn ∈ s.aborted ∨ s.committed.idxOf f.Txn < s.committed.idxOf e.Txn ∨ (¬ Ended s f.Txn ∧ f.Txn ∈ onL s.stacks e.Actor) := by
  intro f hf hf1 hfa
  by_cases he : Ended s f.Txn
  ·rcases he with he | he
   ·refine .inr (.inr (.inl ?_))
    rw [idxOf_none hnc]
    exact idxOf_some he
   ·exact .inr (.inl he)
  ·rcases q.xs f hf hf1 with w | ⟨x, hx, hxa, ht⟩
   ·exact absurd w he
   ·exact .inr (.inr (.inr ⟨he, by rw [onL_mem q.dist hx (hxa.trans hfa)]; exact ht⟩))
 by_cases hm : e.Txn ∈ onL s.stacks e.Actor
 ·have hs' : execS { s with known := knw s e.Txn } e = { s with known := knw s e.Txn } := by unfold execS; rw [if_pos hm]
  rw [hs']
  obtain ⟨x, hx, hxa, hxo⟩ : ∃ x ∈ s.stacks, x.actor = e.Actor ∧ onL s.stacks e.Actor = x.txns := by
   rcases onL_cases s.stacks e.Actor with ⟨w, _⟩ | w
   ·rw [w] at hm; simp at hm
   ·exact w
  refine ⟨q.dist, q.un, fun x hx t ht => knw_mem.2 (.inl (q.kn x hx t ht)), knw_nodup q.knd, fun t ht => ?_, fun d hd => knw_mem.2 (.inl (q.dk d hd)), q.ord, q.dord, q.dst, q.dco, q.dab, q.dis, ?_, ?_, ?_⟩
  ·rcases knw_mem.1 ht with ht | rfl
   ·exact q.bt t ht
   ·exact ha.bt
  ·intro f hf
   rcases List.mem_append.1 hf with hf | hf
   ·exact knw_mem.2 (.inl (q.hk f hf))
   ·exact knw_mem.2 (.inr (by rw [List.mem_singleton.1 hf]))
  ·intro f hf hf1
   rcases List.mem_append.1 hf with hf | hf
   ·exact q.xs f hf hf1
   ·rw [List.mem_singleton.1 hf]
    exact .inr ⟨x, hx, hxa, by rw [← hxo]; exact hm⟩
  ·rw [List.pairwise_append]
   refine ⟨q.ser, by simp, fun f hf g hg h1 h2 h3 => ?_⟩
   obtain rfl := List.mem_singleton.1 hg
   rcases hprev f hf h1 h3 with w | w | w | ⟨w1, w2⟩
   ·exact .inl w
   ·exact .inr (.inl w)
   ·exact .inr (.inr (.inr (.inl w)))
   ·by_cases hfe : f.Txn = g.Txn
    ·exact .inl hfe
    ·refine .inr (.inr (.inr (.inr ⟨w1, ha.un, x, hx, hxa.trans h3.symm, ?_⟩)))
     rw [hxo] at w2 hm
     rcases two_mem w2 hm hfe with w | w
     ·exact w
     ·exact absurd (pair_sub (q.ord x hx) w).1.begun hnb
 ·have hown : ∀ u ∈ onL s.stacks e.Actor, Has s u e.Actor := by
   intro u hu
   obtain ⟨x, hx, hxa, hxo⟩ : ∃ x ∈ s.stacks, x.actor = e.Actor ∧ onL s.stacks e.Actor = x.txns := by
    rcases onL_cases s.stacks e.Actor with ⟨w, _⟩ | w
    ·rw [w] at hu; simp at hu
    ·exact w
   have hne : onL s.stacks e.Actor ≠ [] := fun w => by rw [w] at hu; simp at hu
   have hl := List.getLast?_eq_some_getLast hne
   have hlm := List.getLast_mem hne
   generalize (onL s.stacks e.Actor).getLast hne = y at hl hlm
   have hy : Has s y e.Actor := (htop y hl).resolve_left fun w => hm (w ▸ hlm)
   by_cases huy : u = y
   ·rw [huy]; exact hy
   ·rcases two_mem hu hlm huy with w | w
    ·rw [hxo] at w
     have := (pair_sub (q.ord x hx) w).1
     rwa [hxa] at this
    ·
     exfalso
     have hnd : (onL s.stacks e.Actor).Nodup := by rw [hxo]; exact nodup_ord (q.ord x hx)
     obtain ⟨l, hl'⟩ := List.getLast?_eq_some_iff.1 hl
     rw [hl'] at w hnd
     have hnd := List.nodup_append.1 hnd
     have hul : u ∈ l := by
      have : u ∈ l ++ [y] := w.subset (by simp)
      rcases List.mem_append.1 this with h | h
      ·exact h
      ·exact absurd (List.mem_singleton.1 h) huy
     have : [y, u].Sublist (l ++ [y]) := w
     have hyl : y ∈ l := by
      obtain ⟨l1, l2, e1, s1, s2⟩ := List.sublist_append_iff.1 this
      cases l1 with
      | nil =>
       simp only [List.nil_append] at e1
       rw [← e1] at s2
       have := s2.length_le
       simp at this
      | cons z l1 =>
       simp only [List.cons_append, List.cons.injEq] at e1
       rw [e1.1]
       exact s1.subset (by simp)
     exact hnd.2.2 y hyl y (by simp) rfl
  have hs' : execS { s with known := knw s e.Txn } e = { s with known := knw s e.Txn, stacks := pushS (withA s.stacks e.Actor) e.Actor e.Txn, deps := match (onL s.stacks e.Actor).getLast? with | none => s.deps | some y => s.deps ++ [⟨e.Txn, y⟩] } := by
   unfold execS; rw [if_neg hm]; try rfl
  rw [hs']
  have hdeps : ∀ d, d ∈ (match (onL s.stacks e.Actor).getLast? with | none => s.deps | some y => s.deps ++ [(⟨e.Txn, y⟩ : Arr2_i64)]) → d ∈ s.deps ∨ (d.e0 = e.Txn ∧ d.e1 ∈ onL s.stacks e.Actor) := by
   intro d hd
   split at hd
   ·exact .inl hd
   ·rename_i y hy
    rcases List.mem_append.1 hd with hd | hd
    ·exact .inl hd
    ·rw [List.mem_singleton.1 hd]
     exact .inr ⟨rfl, List.mem_of_getLast? hy⟩
  have hbi : ∀ u ∈ onL s.stacks e.Actor, bIdx s u < bIdx s e.Txn := fun u hu => by
   rw [bIdx_eq hnb]; exact bIdx_lt (hown u hu).begun
  have hkeep : ∀ {a u v : Int} {x : cascade_stack}, x ∈ s.stacks → x.actor = a → [u, v].Sublist x.txns → ∃ x ∈ pushS (withA s.stacks e.Actor) e.Actor e.Txn, x.actor = a ∧ [u, v].Sublist x.txns := by
   intro a u v x hx hxa hsb
   by_cases hh : x.actor = e.Actor
   ·refine ⟨_, push_here e.Actor e.Txn q.dist, ?_, ?_⟩
    ·exact hh.symm.trans hxa
    ·rw [onL_mem q.dist hx hh]
     exact hsb.trans (List.sublist_append_left _ _)
   ·exact ⟨x, push_keep hx hh, hxa, hsb⟩
  refine ⟨push_dist (withA_dist q.dist), ?_, ?_, knw_nodup q.knd, ?_, ?_, ?_, ?_, ?_, ?_, ?_, q.dis, ?_, ?_, ?_⟩
  ·intro x hx t ht
   rcases push_cases q.dist hx with ⟨hx, _⟩ | rfl
   ·exact q.un x hx t ht
   ·rcases List.mem_append.1 ht with ht | ht
    ·rcases onL_cases s.stacks e.Actor with ⟨w, _⟩ | ⟨y, hy, _, hyo⟩
     ·rw [w] at ht; simp at ht
     ·exact q.un y hy t (hyo ▸ ht)
    ·rw [List.mem_singleton.1 ht]; exact ha.un
  ·intro x hx t ht
   rcases push_cases q.dist hx with ⟨hx, _⟩ | rfl
   ·exact knw_mem.2 (.inl (q.kn x hx t ht))
   ·rcases List.mem_append.1 ht with ht | ht
    ·rcases onL_cases s.stacks e.Actor with ⟨w, _⟩ | ⟨y, hy, _, hyo⟩
     ·rw [w] at ht; simp at ht
     ·exact knw_mem.2 (.inl (q.kn y hy t (hyo ▸ ht)))
    ·exact knw_mem.2 (.inr (List.mem_singleton.1 ht))
  ·intro t ht
   rcases knw_mem.1 ht with ht | rfl
   ·exact q.bt t ht
   ·exact ha.bt
  ·intro d hd
   rcases hdeps d hd with hd | ⟨hd, _⟩
   ·exact knw_mem.2 (.inl (q.dk d hd))
   ·exact knw_mem.2 (.inr hd)
  ·intro x hx
   rcases push_cases q.dist hx with ⟨hx, _⟩ | rfl
   ·exact q.ord x hx
   ·simp only
    rw [List.pairwise_append]
    refine ⟨?_, by simp, fun u hu v hv => ?_⟩
    ·rcases onL_cases s.stacks e.Actor with ⟨w, _⟩ | ⟨y, hy, hya, hyo⟩
     ·rw [w]; exact List.Pairwise.nil
     ·rw [hyo]
      have := q.ord y hy
      rw [hya] at this
      exact this
    ·rw [List.mem_singleton.1 hv]
     exact ⟨hown u hu, hbi u hu⟩
  ·intro d hd
   rcases hdeps d hd with hd | ⟨h0, h1⟩
   ·exact q.dord d hd
   ·have := hbi _ h1
    rw [h0]
    exact this
  ·intro d hd h0 h1
   rcases hdeps d hd with hd | ⟨e0, e1⟩
   ·obtain ⟨x, hx, hsb⟩ := q.dst d hd h0 h1
    obtain ⟨x', hx', _, hsb'⟩ := hkeep hx rfl hsb
    exact ⟨x', hx', hsb'⟩
   ·exact ⟨_, push_here e.Actor e.Txn q.dist, by rw [e0]; exact sub_snoc e1⟩
  ·intro d hd h0
   rcases hdeps d hd with hd | ⟨e0, e1⟩
   ·exact q.dco d hd h0
   ·rw [e0] at h0; exact absurd h0 hnc
  ·intro d hd h1
   rcases hdeps d hd with hd | ⟨e0, e1⟩
   ·exact q.dab d hd h1
   ·exfalso
    rcases onL_cases s.stacks e.Actor with ⟨w, _⟩ | ⟨y, hy, _, hyo⟩
    ·rw [w] at e1; simp at e1
    ·exact q.un y hy _ (hyo ▸ e1) (.inr h1)
  ·intro f hf
   rcases List.mem_append.1 hf with hf | hf
   ·exact knw_mem.2 (.inl (q.hk f hf))
   ·exact knw_mem.2 (.inr (by rw [List.mem_singleton.1 hf]))
  ·intro f hf hf1
   rcases List.mem_append.1 hf with hf | hf
   ·rcases q.xs f hf hf1 with w | ⟨x, hx, hxa, ht⟩
    ·exact .inl w
    ·by_cases hh : x.actor = e.Actor
     ·exact .inr ⟨_, push_here e.Actor e.Txn q.dist, hh.symm.trans hxa, by rw [onL_mem q.dist hx hh]; simp [ht]⟩
     ·exact .inr ⟨x, push_keep hx hh, hxa, ht⟩
   ·rw [List.mem_singleton.1 hf]
    exact .inr ⟨_, push_here e.Actor e.Txn q.dist, rfl, by simp⟩
  ·rw [List.pairwise_append]
   refine ⟨q.ser.imp fun {f g} w h1 h2 h3 => ?_, by simp, fun f hf g hg h1 h2 h3 => ?_⟩
   ·rcases w h1 h2 h3 with w | w | w | w | ⟨w1, w2, x, hx, hxa, hsb⟩
    ·exact .inl w
    ·exact .inr (.inl w)
    ·exact .inr (.inr (.inl w))
    ·exact .inr (.inr (.inr (.inl w)))
    ·exact .inr (.inr (.inr (.inr ⟨w1, w2, hkeep hx hxa hsb⟩)))
   ·obtain rfl := List.mem_singleton.1 hg
    rcases hprev f hf h1 h3 with w | w | w | ⟨w1, w2⟩
    ·exact .inl w
    ·exact .inr (.inl w)
    ·exact .inr (.inr (.inr (.inl w)))
    ·exact .inr (.inr (.inr (.inr ⟨w1, ha.un, _, push_here g.Actor g.Txn q.dist, h3.symm, sub_snoc w2⟩)))
theorem KI.step {h : List TxnEvent} {s s' : cascade_state} {e : TxnEvent} (q : KI h s) (ha : Allowed s e) (hs : Step s e s') : KI (h ++ [e]) s' := by
 cases hs with
 | exec k1 => exact q.exec ha k1
 | prep k2 =>
  have hn1 : ¬ e.Kind = 1 := by omega
  refine ⟨q.dist, q.un, fun x hx t ht => knw_mem.2 (.inl (q.kn x hx t ht)), knw_nodup q.knd, fun t ht => ?_, fun d hd => knw_mem.2 (.inl (q.dk d hd)), fun x hx => (q.ord x hx).imp fun {a b} w => ⟨w.1.app rfl, bIdx_app rfl w.2⟩, fun d hd => bIdx_app rfl (q.dord d hd), q.dst, q.dco, q.dab, q.dis, fun f hf => ?_, fun f hf hf1 => ?_, ?_⟩
  ·rcases knw_mem.1 ht with ht | rfl
   ·exact q.bt t ht
   ·exact ha.bt
  ·rcases List.mem_append.1 hf with hf | hf
   ·exact knw_mem.2 (.inl (q.hk f hf))
   ·exact knw_mem.2 (.inr (by rw [List.mem_singleton.1 hf]))
  ·rcases List.mem_append.1 hf with hf | hf
   ·exact q.xs f hf hf1
   ·rw [List.mem_singleton.1 hf] at hf1; exact absurd hf1 hn1
  ·rw [List.pairwise_append]
   refine ⟨q.ser, by simp, fun f hf g hg h1 h2 => ?_⟩
   rw [List.mem_singleton.1 hg] at h2; exact absurd h2 hn1
 | com k3 =>
  have hlow : Lowest s e.Txn := by
   rcases ha.ok with w | w | w | w
   ·exfalso; have := w.1; omega
   ·exfalso; have := w.1; omega
   ·exact w.2.2.2
   ·exfalso; have := w.1; omega
  have hno : ∀ x ∈ s.stacks, ∀ u, ¬ [u, e.Txn].Sublist x.txns := fun x hx u w => low_no (nodup_ord (q.ord x hx)) w (hlow x hx (w.subset (by simp)))
  have hmc : ∀ u, u ∈ s.committed ++ [e.Txn] ↔ u ∈ s.committed ∨ u = e.Txn := fun u => by simp
  refine q.rm [e.Txn] ha.bt rfl rfl rfl rfl (fun u => ?_) (fun d hd h0 => ?_) q.dab (fun t ht => ?_) (fun a u v w => ?_) (by omega)
  ·unfold Ended
   simp only [hmc, List.mem_singleton]
   constructor
   ·rintro ((h | h) | h)
    ·exact .inl (.inl h)
    ·exact .inr h
    ·exact .inl (.inr h)
   ·rintro ((h | h) | h)
    ·exact .inl (.inl h)
    ·exact .inr h
    ·exact .inl (.inr h)
  ·simp only [hmc] at h0 ⊢
   rcases h0 with h0 | h0
   ·exact .inl (q.dco d hd h0)
   ·by_cases hen : Ended s d.e1
    ·rcases hen with w | w
     ·exact .inl w
     ·have := q.dab d hd w
      rw [h0] at this
      exact absurd (.inr this) ha.un
    ·obtain ⟨x, hx, hsb⟩ := q.dst d hd (h0 ▸ ha.un) hen
     rw [h0] at hsb
     exact absurd hsb (hno x hx _)
  ·simp only [hmc] at ht
   rcases ht with ht | rfl
   ·exact q.dis t ht
   ·exact fun w => ha.un (.inr w)
  ·rcases w with w | w | w | w | ⟨w1, w2, x, hx, hxa, hsb⟩
   ·exact .inl w
   ·exact .inr (.inl w)
   ·exact .inr (.inr (.inl w))
   ·refine .inr (.inr (.inr (.inl ?_)))
    have hv : s.committed.idxOf v ≤ s.committed.length := List.idxOf_le_length
    simp only
    rw [List.idxOf_append, List.idxOf_append, if_pos (by exact List.idxOf_lt_length_iff.1 (by omega))]
    split <;> omega
   ·by_cases huv : u = v
    ·exact .inl huv
    ·have hv : v ≠ e.Txn := fun w => hno x hx u (w ▸ hsb)
     by_cases hu : u = e.Txn
     ·refine .inr (.inr (.inr (.inl ?_)))
      have h1 : u ∉ s.committed := fun w => w1 (.inl w)
      have h2 : v ∉ s.committed ++ [e.Txn] := fun w => ((hmc v).1 w).elim (fun w => w2 (.inl w)) hv
      simp only
      rw [idxOf_none h2]
      have := idxOf_some (l := s.committed ++ [e.Txn]) (t := u) (by simp [hu])
      exact this
     ·refine .inr (.inr (.inr (.inr ⟨?_, ?_, rmX [e.Txn] x, rmS_mem.2 ⟨x, hx, rfl⟩, hxa, ?_⟩)))
      ·rintro (w | w)
       ·exact ((hmc u).1 w).elim (fun w => w1 (.inl w)) hu
       ·exact w1 (.inr w)
      ·rintro (w | w)
       ·exact ((hmc v).1 w).elim (fun w => w2 (.inl w)) hv
       ·exact w2 (.inr w)
      ·rw [rmX_txns]
       exact sub_filter hsb (by simpa using hu) (by simpa using hv)
 | abt gone k4 hg _ =>
  have hma : ∀ u, u ∈ s.aborted ++ gone ↔ u ∈ s.aborted ∨ u ∈ gone := fun u => by simp
  refine q.rm gone ha.bt rfl rfl rfl rfl (fun u => ?_) q.dco (fun d hd h1 => ?_) (fun t ht w => ?_) (fun a u v w => ?_) (by omega)
  ·unfold Ended
   simp only [hma]
   exact or_assoc.symm
  ·simp only [hma] at h1 ⊢
   rcases h1 with h1 | h1
   ·exact .inl (q.dab d hd h1)
   ·obtain ⟨r1, n1⟩ := (hg _).1 h1
    by_cases hen : Ended s d.e0
    ·rcases hen with w | w
     ·exact absurd (.inl (q.dco d hd w)) n1
     ·exact .inl w
    ·exact .inr ((hg _).2 ⟨.step hd r1, hen⟩)
  ·rcases (hma t).1 w with w | w
   ·exact q.dis t ht w
   ·exact ((hg t).1 w).2 (.inl ht)
  ·rcases w with w | w | w | w | ⟨w1, w2, x, hx, hxa, hsb⟩
   ·exact .inl w
   ·exact .inr (.inl ((hma u).2 (.inl w)))
   ·exact .inr (.inr (.inl ((hma v).2 (.inl w))))
   ·exact .inr (.inr (.inr (.inl w)))
   ·by_cases hu : u ∈ gone
    ·exact .inr (.inl ((hma u).2 (.inr hu)))
    ·by_cases hv : v ∈ gone
     ·exact .inr (.inr (.inl ((hma v).2 (.inr hv))))
     ·refine .inr (.inr (.inr (.inr ⟨?_, ?_, rmX gone x, rmS_mem.2 ⟨x, hx, rfl⟩, hxa, ?_⟩)))
      ·rintro (w | w)
       ·exact w1 (.inl w)
       ·exact ((hma u).1 w).elim (fun w => w1 (.inr w)) hu
      ·rintro (w | w)
       ·exact w2 (.inl w)
       ·exact ((hma v).1 w).elim (fun w => w2 (.inr w)) hv
      ·rw [rmX_txns]
       exact sub_filter hsb (by simpa using hu) (by simpa using hv)
theorem KI.nil : KI [] ⟨[], [], [], [], [], []⟩ :=
 ⟨List.Pairwise.nil, by simp, by simp, by simp, by simp, by simp, by simp, by simp, by simp, by simp, by simp, by simp, by simp, by simp, List.Pairwise.nil⟩
theorem Chain.ki {N : Nat} {h : List TxnEvent} {s : cascade_state} (c : Chain N h s) : KI h s := by
 induction c with
 | nil => exact KI.nil
 | snoc _ ha hs _ ih => exact ih.step ha hs
end Go.Proofs.Ytekgpnhfhkhpaaa

set_option linter.unusedSimpArgs false
set_option linter.unusedVariables false
namespace Go.Proofs.Ytekgpnhfhkhpaaa
open Go Go.Proofs Go.Abs
def statS (s : cascade_state) (t : Int) : Int := if t ∈ s.aborted then 4 else if t ∈ s.committed then 3 else if Ready s t then 2 else if t ∈ s.known then 1 else 0
theorem status_eq (N : Nat) (s : cascade_state) (t : Int) : cascade_state_status N s t = some (statS s t) := by
 unfold cascade_state_status statS
 rw [contains_eq, contains_eq, contains_eq, ready_eq]
 simp only [Option.bind_some, decide_eq_true_eq]
 repeat' split
 all_goals rfl
theorem Status_eq {N : Nat} {h : List TxnEvent} {s : cascade_state} (c : V N h s) (t : Int) : cascade_Status N h t = some (statS s t) := by
 unfold cascade_Status
 unfold V at c
 rw [c, Option.bind_some, if_neg (by simp), status_eq]
 rfl
theorem Order_eq {N : Nat} {h : List TxnEvent} {s : cascade_state} (c : V N h s) : cascade_Order N h = some s.committed := by
 unfold cascade_Order
 unfold V at c
 rw [c, Option.bind_some, if_neg (by simp)]
theorem Deps_eq {N : Nat} (hN : 100002 ≤ N) {h : List TxnEvent} {s : cascade_state} (c : V N h s) (hd : s.deps.length ≤ 100000) : ∃ r, cascade_Dependencies N h = some r ∧ r.Pairwise lp ∧ ∀ z, z ∈ r ↔ z ∈ s.deps := by
 have small : slices_SortFunc_2int_cascade_Dependencies_1_small N [] = some [] := by
  obtain ⟨n, rfl⟩ : ∃ n, N = n + 1 := ⟨N - 1, by omega⟩
  obtain ⟨r, hr⟩ := bits_zero (n + 1)
  have h1 : slices_insertionSortCmpFunc_2int_cascade_Dependencies_1_cut (n + 1) [] 0 0 = some [] := by
   simp only [slices_insertionSortCmpFunc_2int_cascade_Dependencies_1_cut, slices_insertionSortCmpFunc_2int_cascade_Dependencies_1_cut_L1]
   rw [if_neg (by decide)]
   rfl
  have h2 : slices_pdqsortCmpFunc_2int_cascade_Dependencies_1_cut (n + 1) [] 0 0 r = some [] := by
   simp only [slices_pdqsortCmpFunc_2int_cascade_Dependencies_1_cut, slices_pdqsortCmpFunc_2int_cascade_Dependencies_1_cut_L1]
   rw [if_pos (by decide), h1]
   rfl
  unfold slices_SortFunc_2int_cascade_Dependencies_1_small
  rw [show IntKind.u64.wrap ((([] : List Arr2_i64).length : Nat) : Int) = IntKind.u64.wrap 0 from rfl, hr, Option.bind_some, show ((([] : List Arr2_i64).length : Nat) : Int) = 0 from rfl, h2]
  rfl
 have hsort : ∃ o, slices_SortFunc_2int_cascade_Dependencies_1 N s.deps = some o ∧ o.Perm s.deps ∧ o.Pairwise leP := by
  unfold slices_SortFunc_2int_cascade_Dependencies_1
  cases hdd : s.deps with
  | nil => exact ⟨[], by simpa using small, List.Perm.refl _, List.Pairwise.nil⟩
  | cons x xs =>
   simp only [List.isEmpty_cons, Bool.false_eq_true, if_false]
   exact sortP (deps1_eq N) (by rw [← hdd]; exact hd)
 obtain ⟨o, e1, p1, s1⟩ := hsort
 obtain ⟨r, e2, s2, m2⟩ := compact_eq N hN o s1 (by rw [p1.length_eq]; exact hd)
 unfold cascade_Dependencies
 unfold V at c
 rw [c, Option.bind_some, if_neg (by simp)]
 simp only [e1, e2, Option.bind_some]
 exact ⟨r, rfl, s2, fun z => (m2 z).trans p1.mem_iff⟩
theorem one_of {α : Type} {r : List α} {a : α} (hn : r.Nodup) (h : ∀ z, z ∈ r ↔ z = a) : r = [a] := by
 match r, hn, h with
 | [], _, h => exact absurd ((h a).2 rfl) (by simp)
 | [x], _, h => rw [(h x).1 (by simp)]
 | x :: y :: r, hn, h =>
  have := (List.nodup_cons.1 hn).1
  rw [(h x).1 (by simp), ← (h y).1 (by simp)] at this
  exact absurd (by simp) this
def s3 : cascade_state := ⟨[⟨1, [1, 2]⟩], [⟨1, 1⟩], [1, 2], [], [], [⟨2, 1⟩]⟩
def h3 : List TxnEvent := [⟨1, 1, 1⟩, ⟨2, 1, 1⟩, ⟨1, 2, 1⟩]
theorem v3 (N : Nat) : V N h3 s3 := by
 unfold V cascade_run h3 s3
 rfl
theorem reach3 {a t : Int} (h : Reach [⟨2, 1⟩] [a] t) : t = a ∨ (t = 2 ∧ a = 1) := by
 induction h with
 | base h => exact .inl (by simpa using h)
 | step hd _ ih =>
  obtain rfl := List.mem_singleton.1 hd
  rcases ih with h | ⟨h, _⟩
  ·exact .inr ⟨rfl, h.symm⟩
  ·cases h
theorem clo2 (N : Nat) (hN : 100002 ≤ N) : cascade_Closure N [⟨2, 1⟩] [2] = some [2] := by
 obtain ⟨r, e1, e2, e3, _⟩ := closure_eq N [⟨2, 1⟩] [2] (by simp) hN
 rw [e1, one_of (a := 2) (e3.imp fun {a b} h => by omega) fun z => (e2 z).trans ⟨fun h => ?_, fun h => .base (by simp [h])⟩]
 rcases reach3 h with h | ⟨h, _⟩ <;> exact h
theorem clo1 (N : Nat) (hN : 100002 ≤ N) : ∃ r, cascade_Closure N [⟨2, 1⟩] [1] = some r ∧ r.length = 2 := by
 obtain ⟨r, e1, e2, e3, _⟩ := closure_eq N [⟨2, 1⟩] [1] (by simp) hN
 have hn : r.Nodup := e3.imp fun {a b} h => by omega
 refine ⟨r, e1, Nat.le_antisymm (List.Nodup.length_le_of_subset (l₂ := [1, 2]) hn fun z hz => ?_) (List.Nodup.length_le_of_subset (l₁ := [1, 2]) (by decide) fun z hz => ?_)⟩
 ·rcases reach3 ((e2 z).1 hz) with h | ⟨h, _⟩ <;> simp [h]
 ·have h1 : Reach [⟨2, 1⟩] [1] 1 := .base (by simp)
  simp only [List.mem_cons, List.not_mem_nil, or_false] at hz
  rcases hz with rfl | rfl
  ·exact (e2 _).2 h1
  ·exact (e2 _).2 (.step (d := ⟨2, 1⟩) (by simp) h1)
theorem srt1 (N : Nat) (hN : 100002 ≤ N) : slices_Sort_int N [1] = some [1] := by
 obtain ⟨r, e1, e2, _⟩ := sort_eq N (by omega) [1] (by simp)
 rw [e1, List.perm_singleton.1 e2]
theorem out3 (N : Nat) (hN : 100002 ≤ N) : cascade_Outcome N h3 = some ([1], [2]) := by
 have h := v3 N
 unfold V at h
 unfold cascade_Outcome
 rw [h, Option.bind_some, if_neg (by decide)]
 have e1 : ∀ k, cascade_Outcome_L1 k N (s3, -1) s3.known 0 [] = k [2] := by intro k; rfl
 simp only [e1]
 unfold cascade_Outcome_J3
 simp only [s3, clo2 N hN, Option.bind_some]
 have e2 : slices_DeleteFunc_int_cascade_state_ended N [2] [⟨1, [1, 2]⟩] [⟨1, 1⟩] [1, 2] [] [] [⟨2, 1⟩] = some [2] := rfl
 rw [e2, Option.bind_some]
 have e3 := remove_eq N s3 [2] (fun x hx => by
  simp only [s3, List.mem_singleton] at hx
  subst hx
  simp; omega)
 simp only [s3] at e3
 rw [e3, Option.bind_some]
 have e4 : ∀ k, cascade_Outcome_L2 k N [2] ⟨rmS [2] [⟨1, [1, 2]⟩], [⟨1, 1⟩], [1, 2], [], [], [⟨2, 1⟩]⟩ [1, 2] 0 [] = k [1] := by intro k; rfl
 rw [e4]
 unfold cascade_Outcome_J2
 rw [srt1 N hN, Option.bind_some]
 obtain ⟨n, rfl⟩ : ∃ n, N = n + 1 + 1 := ⟨N - 2, by omega⟩
 rfl
theorem gx0 {α β : Type} {l : List α} {x : α} {k : α → Option β} (h : l[0]? = some x) : gx l 0 k = k x := gx_nat (i := 0) h
theorem awake_eq (N : Nat) (hN : 100002 ≤ N) : law33_awake N = some true := by
 have hv := v3 N
 obtain ⟨r, e1, e2, e3⟩ := Deps_eq hN hv (by simp [s3])
 have hr : r = [⟨2, 1⟩] := one_of (e2.imp fun {a b} h e => by rw [e] at h; unfold lp at h; omega) fun z => (e3 z).trans (by simp [s3])
 have e4 := Status_eq hv 1
 have e5 := Status_eq hv 2
 have e6 : cascade_Stack N h3 1 = some [1, 2] := by
  unfold V at hv
  unfold cascade_Stack
  rw [hv]
  rfl
 have e7 := check_eq hv
 have e8 := out3 N hN
 obtain ⟨r9, e9, e10⟩ := clo1 N hN
 have e11 : cascade_Order N [⟨1, 1, 1⟩, ⟨2, 1, 1⟩, ⟨1, 2, 1⟩, ⟨3, 1, 0⟩] = some [1] := Order_eq (s := ⟨[⟨1, [2]⟩], [⟨1, 1⟩], [1, 2], [1], [], [⟨2, 1⟩]⟩) (by
  have := run_snoc hv ⟨3, 1, 0⟩
  have ha : cascade_state_apply N s3 ⟨3, 1, 0⟩ = some ⟨[⟨1, [2]⟩], [⟨1, 1⟩], [1, 2], [1], [], [⟨2, 1⟩]⟩ := by
   obtain ⟨n, rfl⟩ : ∃ n, N = n + 1 + 1 + 1 := ⟨N - 3, by omega⟩
   rfl
  rw [ha] at this
  exact this)
 have e12 : cascade_Status N [⟨1, 1, 1⟩, ⟨2, 1, 1⟩, ⟨1, 2, 1⟩, ⟨4, 1, 0⟩] 2 = some 4 := by
  have ha : Allowed s3 ⟨4, 1, 0⟩ := ⟨by simp [Btw], by simp [Ended, s3], .inr (.inr (.inr ⟨rfl, rfl⟩))⟩
  have hsz : Sz s3 3 := ⟨by simp [s3], by simp [s3], by simp [s3], by simp [s3], by simp [s3], by simp [s3], fun x hx => by simp only [s3, List.mem_singleton] at hx; subst hx; simp⟩
  obtain ⟨s', f1, f2⟩ := apply_eq N hN s3 ⟨4, 1, 0⟩ hsz (by omega) (by simp [DistA, s3]) ha
  have hv' : V N (h3 ++ [⟨4, 1, 0⟩]) s' := by
   unfold V
   rw [run_snoc hv, f1]
   rfl
  have := Status_eq hv' 2
  rw [show (h3 ++ [⟨4, 1, 0⟩] : List TxnEvent) = [⟨1, 1, 1⟩, ⟨2, 1, 1⟩, ⟨1, 2, 1⟩, ⟨4, 1, 0⟩] from rfl] at this
  rw [this]
  have hab : (2 : Int) ∈ s'.aborted := by
   cases f2 with
   | exec h => simp at h
   | prep h => simp at h
   | com h => simp at h
   | abt gone _ hg _ => exact List.mem_append.2 (.inr ((hg 2).2 ⟨.step (d := ⟨2, 1⟩) (by simp [s3]) (.base (by simp)), by simp [Ended, s3]⟩))
  unfold statS
  rw [if_pos hab]
 rw [hr] at e1
 unfold law33_awake
 unfold h3 at e1 e4 e5 e6 e7 e8
 rw [e1, Option.bind_some, if_pos (by decide), gx0 (x := (⟨2, 1⟩ : Arr2_i64)) rfl, if_pos (by decide), e4, Option.bind_some, if_pos (by decide), e5, Option.bind_some, if_pos (by decide), e6, Option.bind_some]
 unfold law33_awake_J1
 rw [if_neg (by decide)]
 unfold law33_awake_J6
 rw [e8, Option.bind_some, if_pos (by decide), gx0 (x := (1 : Int)) rfl, if_pos rfl, if_pos (by decide), gx0 (x := (2 : Int)) rfl]
 unfold law33_awake_J2
 rw [if_neg (by decide)]
 unfold law33_awake_J5
 rw [e7, Option.bind_some, if_pos rfl, e9, Option.bind_some, e10]
 unfold law33_awake_J3
 rw [if_neg (by decide)]
 unfold law33_awake_J4
 rw [apx_of (by simp), apx_of (by simp)]
 simp only [List.cons_append, List.nil_append]
 rw [e11, Option.bind_some, if_pos (by decide), gx0 (x := (1 : Int)) rfl, if_pos rfl, e12]
 rfl
theorem hist_J3 {N : Nat} (hN : 100002 ≤ N) {l : List TxnEvent} {s : cascade_state} (c : Chain N l s) (hl : l.length ≤ 1000) (x : actorgridlaw33_Act) (v : Nat) (rec : List TxnEvent → Option (List TxnEvent)) (a b : Int) :
  ∃ l' s', law33_history_J3 l x v N rec a b = rec l' ∧ Chain N l' s' ∧ l'.length ≤ l.length + 1 := by
 unfold law33_history_J3
 rw [apn_of (by omega), apx_of (by simp only [List.length_cons, List.length_nil]; omega)]
 generalize (TxnEvent.mk a _ b) = e
 rcases check_snoc hN c hl e with ⟨h1, h2⟩ | ⟨h1, k, h2⟩
 ·obtain ⟨s', c', _⟩ := c.add hN hl h1
  exact ⟨l ++ [e], s', by rw [h2, Option.bind_some, if_pos rfl], c', by simp⟩
 ·exact ⟨l, s, by rw [h2, Option.bind_some, if_neg (by simp)], c, by omega⟩
theorem hist_J2 (k : Int → Int → Option (List TxnEvent)) (x : actorgridlaw33_Act) (c : Bool) : ∃ a b, law33_history_J2 k x c = k a b := by
 have h1 : ∀ c, ∃ a b, law33_history_J1 k x c = k a b := by
  intro c
  unfold law33_history_J1
  repeat' split
  all_goals exact ⟨_, _, rfl⟩
 unfold law33_history_J2
 split
 ·exact ⟨_, _, rfl⟩
 ·split
  ·exact h1 _
  ·exact h1 _
theorem hist_L1 {N : Nat} (hN : 100002 ≤ N) : ∀ (xs : List actorgridlaw33_Act) (v : Nat) (l : List TxnEvent) (s : cascade_state), Chain N l s → l.length + xs.length ≤ 1000 → ∃ h s', law33_history_L1 N xs v l = some h ∧ Chain N h s' ∧ h.length ≤ l.length + xs.length
 | [], v, l, s, c, _ => ⟨l, s, rfl, c, by simp⟩
 | x :: xs, v, l, s, c, hl => by
  simp only [List.length_cons] at hl ⊢
  have go : ∀ b, ∃ h s', law33_history_J2 (law33_history_J3 l x v N (law33_history_L1 N xs (v + 1))) x b = some h ∧ Chain N h s' ∧ h.length ≤ l.length + (xs.length + 1) := by
   intro b
   obtain ⟨a, b', e1⟩ := hist_J2 (law33_history_J3 l x v N (law33_history_L1 N xs (v + 1))) x b
   obtain ⟨l', s', e2, c', h'⟩ := hist_J3 hN c (by omega) x v (law33_history_L1 N xs (v + 1)) a b'
   obtain ⟨h, s'', e3, c'', h''⟩ := hist_L1 hN xs (v + 1) l' s' c' (by omega)
   exact ⟨h, s'', by rw [e1, e2, e3], c'', by omega⟩
  rw [law33_history_L1]
  split
  ·exact go _
  ·exact go _
theorem history_eq {N : Nat} (hN : 100002 ≤ N) (l : List actorgridlaw33_Act) (hl : l.length ≤ 1000) : ∃ h s, law33_history N l = some h ∧ Chain N h s ∧ h.length ≤ l.length := by
 obtain ⟨h, s, e1, c, e2⟩ := hist_L1 hN l 0 [] _ .nil (by simpa using hl)
 exact ⟨h, s, e1, c, by simpa using e2⟩
theorem stat4 {s : cascade_state} {t : Int} : statS s t = 4 ↔ t ∈ s.aborted := by
 unfold statS
 repeat' split
 all_goals simp_all
theorem stat3 {s : cascade_state} {t : Int} : statS s t = 3 ↔ t ∉ s.aborted ∧ t ∈ s.committed := by
 unfold statS
 repeat' split
 all_goals simp_all
theorem rec_L1 {N : Nat} {h : List TxnEvent} {s : cascade_state} (c : Chain N h s) : ∀ (xs : List Arr2_i64) (v : Nat), (∀ z ∈ xs, z ∈ s.deps) → law33_CascadeRecoverable_L1 N h xs v () = some true
 | [], v, _ => rfl
 | x :: xs, v, hx => by
  have ih := rec_L1 c xs (v + 1) fun z hz => hx z (by simp [hz])
  have q := c.ki
  have hd := hx x (by simp)
  rw [law33_CascadeRecoverable_L1, Status_eq c.v, Status_eq c.v, Option.bind_some, Option.bind_some]
  have g1 : statS s x.e0 = 3 → statS s x.e1 = 3 := by
   rw [stat3, stat3]
   intro w
   have := q.dco x hd w.2
   exact ⟨q.dis _ this, this⟩
  have g2 : statS s x.e1 = 4 → statS s x.e0 = 4 := by
   rw [stat4, stat4]
   exact q.dab x hd
  unfold law33_CascadeRecoverable_J1
  by_cases w : statS s x.e0 = 3
  ·have w1 := g1 w
   simp [w, w1, ih]
  ·by_cases w2 : statS s x.e1 = 4
   ·have w3 := g2 w2
    simp [w2, w3, ih]
   ·simp [w, w2, ih]
theorem plain_CascadeRecoverable (l : List actorgridlaw33_Act) : law33_CascadeRecoverable 200000 l = some true := by
 unfold law33_CascadeRecoverable
 rw [awake_eq _ (by omega), Option.bind_some, if_pos rfl]
 split
 ·rfl
 ·rename_i hl
  obtain ⟨h, s, e1, c, e2⟩ := history_eq (N := 200000) (by omega) l (by omega)
  obtain ⟨r, e3, e4, e5⟩ := Deps_eq (by omega) c.v (by have := c.sz.de; omega)
  rw [e1, Option.bind_some, e3, Option.bind_some]
  exact rec_L1 c r 0 fun z hz => (e5 z).1 hz
end Go.Proofs.Ytekgpnhfhkhpaaa
