/- Plain facts on the models; no program in sight. -/
import Derived.Test.YtmgpaicldmgckaaM
set_option linter.unusedSimpArgs false
set_option linter.unusedVariables false
namespace Go.Proofs.Ytmgpaicldmgckaa
open Go Go.Proofs Go.Abs
theorem w64' {n : Int} (h1 : -9223372036854775808 ≤ n) (h2 : n ≤ 9223372036854775807) : IntKind.i64.wrap n = n := wrap64_in h1 h2
theorem sEq_iff' {a b : ByteArray} : sEq a b = true ↔ a = b := by
  unfold sEq
  rw [beq_iff_eq, ByteArray.toList_eq, ByteArray.toList_eq]
  obtain ⟨⟨x⟩⟩ := a
  obtain ⟨⟨y⟩⟩ := b
  simp
theorem ite_someB {c : Prop} [Decidable c] {a b : Bool} : (if c then some a else some b) = some (if c then a else b) := by split <;> rfl
theorem ite_eqT {c : Prop} [Decidable c] {a b : Bool} : ((if c then a else b) = true) ↔ ((c ∧ a = true) ∨ (¬ c ∧ b = true)) := by split <;> simp [*]
theorem some_eqB {a b : Bool} : (some a = some b) ↔ (a = true ↔ b = true) := by cases a <;> cases b <;> simp
theorem bool_eqB {a b : Bool} : (a = b) ↔ (a = true ↔ b = true) := by cases a <;> cases b <;> simp
theorem gx_of {α β : Type} {l : List α} {i : Nat} {x : α} {k : α → Option β} (h : l[i]? = some x) : gx l (i : Int) k = k x := gx_nat h
def all2 {α : Type} (e : α → α → Bool) : List α → List α → Bool
  | [], _ => true
  | x :: xs, y :: ys => e x y && all2 e xs ys
  | _ :: _, [] => false
theorem all2_iff {α : Type} {e : α → α → Bool} (he : ∀ x y, e x y = true ↔ x = y) : ∀ {a b : List α}, a.length = b.length → (all2 e a b = true ↔ a = b)
  | [], [], _ => by simp [all2]
  | [], _ :: _, h => by simp at h
  | _ :: _, [], h => by simp at h
  | x :: a, y :: b, h => by
    simp only [all2, Bool.and_eq_true, he, List.cons.injEq]
    rw [all2_iff he (by simpa using h)]
theorem eq_loop {α : Type} {L : List α → Nat → Unit → Option Bool} (a1 : List α) (e : α → α → Bool) (h0 : ∀ v, L [] v () = some true)
    (h1 : ∀ x xs v, L (x :: xs) v () = gx a1 (v : Int) fun y => if e x y = true then L xs (v + 1) () else some false) :
    ∀ (xs : List α) (v : Nat), v + xs.length ≤ a1.length → L xs v () = some (all2 e xs (a1.drop v))
  | [], v, _ => by rw [h0]; rfl
  | x :: xs, v, h => by
    simp only [List.length_cons] at h
    have hv : v < a1.length := by omega
    rw [h1, gx_of (List.getElem?_eq_getElem hv), List.drop_eq_getElem_cons hv, eq_loop a1 e h0 h1 xs (v + 1) (by omega)]
    simp only [all2]
    cases e x a1[v] <;> simp
def eqL {α : Type} (e : α → α → Bool) (a b : List α) : Bool := decide (a.length = b.length) && all2 e a b
theorem eqL_iff {α : Type} {e : α → α → Bool} (he : ∀ x y, e x y = true ↔ x = y) {a b : List α} : eqL e a b = true ↔ a = b := by
  unfold eqL
  by_cases h : a.length = b.length
  · simp [h, all2_iff he h]
  · have : ¬ a = b := fun e => h (by rw [e])
    simp [h, this]
theorem eq_fun {α : Type} {L : List α → Nat → Unit → Option Bool} (a0 a1 : List α) (e : α → α → Bool) (h0 : ∀ v, L [] v () = some true)
    (h1 : ∀ x xs v, L (x :: xs) v () = gx a1 (v : Int) fun y => if e x y = true then L xs (v + 1) () else some false) :
    (if ((a0.length : Nat) : Int) = ((a1.length : Nat) : Int) then L a0 0 () else some false) = some (eqL e a0 a1) := by
  unfold eqL
  by_cases h : a0.length = a1.length
  · rw [if_pos (by omega), eq_loop a1 e h0 h1 a0 0 (by omega), List.drop_zero]
    simp [h]
  · rw [if_neg (by omega)]
    simp [h]
def findP {α : Type} (p : α → Bool) : List α → Nat → Int
  | [], _ => -1
  | x :: xs, v => if p x = true then (v : Int) else findP p xs (v + 1)
theorem find_loop {α : Type} {L : List α → Nat → Unit → Option Int} (f : α → Option Bool) (p : α → Bool) (h0 : ∀ v, L [] v () = some (-1))
    (h1 : ∀ x xs v, L (x :: xs) v () = (f x).bind fun r => if r = true then some ((v : Nat) : Int) else L xs (v + 1) ()) :
    ∀ (xs : List α) (v : Nat), (∀ x ∈ xs, f x = some (p x)) → L xs v () = some (findP p xs v)
  | [], v, _ => by rw [h0]; rfl
  | x :: xs, v, h => by
    rw [h1, h x (by simp), Option.bind_some, find_loop f p h0 h1 xs (v + 1) (fun y hy => h y (by simp [hy]))]
    simp only [findP]
    cases p x <;> rfl
theorem findP_any {α : Type} (p : α → Bool) : ∀ (xs : List α) (v : Nat), decide (0 ≤ findP p xs v) = xs.any p
  | [], v => rfl
  | x :: xs, v => by
    simp only [findP, List.any_cons]
    by_cases h : p x = true
    · have : (0 : Int) ≤ (v : Int) := by omega
      simp [h, this]
    · simpa [h] using findP_any p xs (v + 1)
theorem all_loop {α ρ : Type} {L : List α → Nat → Unit → Option ρ} (p : α → Bool) (k no : Option ρ) (h0 : ∀ v, L [] v () = k)
    (h1 : ∀ x xs v, L (x :: xs) v () = if p x = true then L xs (v + 1) () else no) :
    ∀ (xs : List α) (v : Nat), L xs v () = if xs.all p = true then k else no
  | [], v => by rw [h0]; rfl
  | x :: xs, v => by
    rw [h1, all_loop p k no h0 h1 xs (v + 1)]
    simp only [List.all_cons]
    by_cases h : p x = true <;> simp [h]
theorem set_same {α : Type} {l : List α} {i : Nat} {x : α} (h : l[i]? = some x) : l.set i x = l := by
  apply List.ext_getElem?
  intro j
  rw [List.getElem?_set]
  split
  · rename_i e
    subst e
    have := (List.getElem?_eq_some_iff.1 h).1
    rw [if_pos this, h]
  · rfl
theorem clone_loop {α ρ : Type} {L : Nat → Nat → List α → Option ρ} (P : α → Prop)
    (h1 : ∀ m v l x, l[v]? = some x → P x → L (m + 1) v l = L m (v + 1) l) :
    ∀ (m v : Nat) (l : List α), v + m ≤ l.length → (∀ x ∈ l, P x) → L m v l = L 0 (v + m) l
  | 0, v, l, _, _ => rfl
  | m + 1, v, l, h, hp => by
    have hv : v < l.length := by omega
    rw [h1 m v l l[v] (List.getElem?_eq_getElem hv) (hp _ (List.getElem_mem hv)), clone_loop P h1 m (v + 1) l (by omega) hp]
    congr 1; omega
theorem apn_of {α β : Type} {b : Nat} {l : List α} {k : Option β} (h : l.length * (b + 1) ≤ 140737488355328) : apn b l k = k := by simp only [apn]; rw [if_pos h]
theorem apx_of {α β : Type} {b : Nat} {l l' : List α} {k : List α → Option β} (h : (l.length + l'.length) * (b + 1) ≤ 140737488355328) : apx b l l' k = k (l ++ l') := by simp only [apx]; rw [if_pos h]
end Go.Proofs.Ytmgpaicldmgckaa

set_option linter.unusedSimpArgs false
set_option linter.unusedVariables false
namespace Go.Proofs.Ytmgpaicldmgckaa
open Go Go.Proofs Go.Abs
def strsB (l : List ByteArray) : Bool := l.all fun s => decide (s.size ≤ 64)
theorem wire_VV_L1 : ∀ (xs : List ByteArray) (v : Nat), wire_ValidValue_L1 xs v () = some (strsB xs)
  | [], v => rfl
  | x :: xs, v => by
    have ih := wire_VV_L1 xs (v + 1)
    simp only [wire_ValidValue_L1, ih, strsB, List.all_cons]
    grind
theorem ref1_VV_L1 : ∀ (xs : List ByteArray) (v : Nat), ref1_ValidValue_L1 xs v () = some (strsB xs)
  | [], v => rfl
  | x :: xs, v => by
    have ih := ref1_VV_L1 xs (v + 1)
    simp only [ref1_ValidValue_L1, ih, strsB, List.all_cons]
    grind
def valueB (v : Value) : Bool :=
  decide (0 ≤ v.Kind) && decide (v.Kind ≤ 5) &&
  decide (v.N = 0 ∨ v.Kind = 1 ∨ (v.Kind = 2 ∧ v.N = 1)) &&
  (sEq v.S ⟨#[]⟩ || decide (v.Kind = 3)) && (decide (v.I.length = 0) || decide (v.Kind = 4)) && (decide (v.L.length = 0) || decide (v.Kind = 5)) &&
  decide (v.S.size ≤ 64) && decide (v.I.length ≤ 16) && decide (v.L.length ≤ 16) && strsB v.L
theorem wire_ValidValue_eq (N : Nat) (v : Value) : wire_ValidValue N v = some (valueB v) := by
  simp only [wire_ValidValue, wire_ValidValue_J1, wire_ValidValue_J2, wire_ValidValue_J3, wire_ValidValue_J4, wire_ValidValue_J5, wire_ValidValue_J6, wire_ValidValue_J7, wire_ValidValue_J8, wire_ValidValue_J9, wire_VV_L1, valueB]
  generalize strsB v.L = q
  generalize sEq v.S ⟨#[]⟩ = z
  cases z <;> cases q <;> simp only [ite_someB, some_eqB, ite_eqT, if_true, if_false, Bool.false_eq_true, Bool.and_eq_true, Bool.or_eq_true, Bool.not_eq_true', decide_eq_true_eq, decide_eq_false_iff_not, Bool.and_false, Bool.and_true, Bool.or_true, Bool.or_false, Bool.true_or, Bool.false_or, Bool.not_true, Bool.not_false, and_false, false_and, or_false, false_or, Classical.not_not, true_and, and_true, iff_false, false_iff, not_false_eq_true, not_true_eq_false, true_or, or_true ] <;> omega
theorem ref1_ValidValue_eq (N : Nat) (v : Value) : ref1_ValidValue N v = some (valueB v) := by
  simp only [ref1_ValidValue, ref1_ValidValue_J1, ref1_ValidValue_J2, ref1_ValidValue_J3, ref1_ValidValue_J4, ref1_VV_L1, valueB]
  generalize strsB v.L = q
  generalize sEq v.S ⟨#[]⟩ = z
  cases z <;> cases q <;> simp only [ite_someB, some_eqB, ite_eqT, if_true, if_false, Bool.false_eq_true, Bool.and_eq_true, Bool.or_eq_true, Bool.not_eq_true', decide_eq_true_eq, decide_eq_false_iff_not, Bool.and_false, Bool.and_true, Bool.or_true, Bool.or_false, Bool.true_or, Bool.false_or, Bool.not_true, Bool.not_false, and_false, false_and, or_false, false_or, Classical.not_not, true_and, and_true, iff_false, false_iff, not_false_eq_true, not_true_eq_false, true_or, or_true ] <;> omega
def intsE (a b : List Int) : Bool := eqL (fun x y => decide (x = y)) a b
def strsE (a b : List ByteArray) : Bool := eqL sEq a b
def refE (a b : Ref) : Bool := sEq a.Type_ b.Type_ && sEq a.Key b.Key
def refsE (a b : List Ref) : Bool := eqL refE a b
theorem intsE_iff {a b : List Int} : intsE a b = true ↔ a = b := eqL_iff (by simp)
theorem strsE_iff {a b : List ByteArray} : strsE a b = true ↔ a = b := eqL_iff (fun _ _ => sEq_iff')
theorem refE_iff (a b : Ref) : refE a b = true ↔ a = b := by
  obtain ⟨a1, a2⟩ := a
  obtain ⟨b1, b2⟩ := b
  simp [refE, sEq_iff']
theorem refsE_iff {a b : List Ref} : refsE a b = true ↔ a = b := eqL_iff refE_iff
theorem wire_same_int_eq (N : Nat) (a b : List Int) : wire_same_int N a b = some (intsE a b) :=
  eq_fun (L := wire_same_int_L1 b) a b _ (fun _ => rfl) (fun x xs v => by simp [wire_same_int_L1])
theorem ref1_SameInts_eq (N : Nat) (a b : List Int) : ref1_SameInts N a b = some (intsE a b) :=
  eq_fun (L := ref1_SameInts_L1 b) a b _ (fun _ => rfl) (fun x xs v => by simp [ref1_SameInts_L1])
theorem slices_Equal_int_eq (N : Nat) (a b : List Int) : slices_Equal_int N a b = some (intsE a b) :=
  eq_fun (L := slices_Equal_int_L1 b) a b _ (fun _ => rfl) (fun x xs v => by simp [slices_Equal_int_L1])
theorem wire_same_string_eq (N : Nat) (a b : List ByteArray) : wire_same_string N a b = some (strsE a b) :=
  eq_fun (L := wire_same_string_L1 b) a b _ (fun _ => rfl) (fun x xs v => by simp [wire_same_string_L1])
theorem ref1_SameStrings_eq (N : Nat) (a b : List ByteArray) : ref1_SameStrings N a b = some (strsE a b) :=
  eq_fun (L := ref1_SameStrings_L1 b) a b _ (fun _ => rfl) (fun x xs v => by simp [ref1_SameStrings_L1])
theorem slices_Equal_Ref_eq (N : Nat) (a b : List Ref) : slices_Equal_Ref N a b = some (refsE a b) :=
  eq_fun (L := slices_Equal_Ref_L1 b) a b _ (fun _ => rfl) (fun x xs v => by simp [slices_Equal_Ref_L1, refE])
theorem ref24_SameRefs_eq (N : Nat) (a b : List Ref) : ref24_SameRefs N a b = some (refsE a b) :=
  eq_fun (L := ref24_SameRefs_L1 b) a b _ (fun _ => rfl) (fun x xs v => by simp [ref24_SameRefs_L1, refE])
def valE (a b : Value) : Bool := decide (a.Kind = b.Kind) && decide (a.N = b.N) && sEq a.S b.S && intsE a.I b.I && strsE a.L b.L
theorem valE_iff (a b : Value) : valE a b = true ↔ a = b := by
  obtain ⟨a1, a2, a3, a4, a5⟩ := a
  obtain ⟨b1, b2, b3, b4, b5⟩ := b
  simp [valE, sEq_iff', intsE_iff, strsE_iff, and_assoc]
theorem wire_SameValue_eq (N : Nat) (a b : Value) : wire_SameValue N a b = some (valE a b) := by
  simp only [wire_SameValue, wire_same_int_eq, wire_same_string_eq, Option.bind_some, valE, ite_someB, some_eqB, ite_eqT, if_true, if_false, Bool.false_eq_true, Bool.and_eq_true, Bool.or_eq_true, Bool.not_eq_true', decide_eq_true_eq, decide_eq_false_iff_not, Bool.and_false, Bool.and_true, Bool.or_true, Bool.or_false, Bool.true_or, Bool.false_or, Bool.not_true, Bool.not_false, and_false, false_and, or_false, false_or, Classical.not_not, true_and, and_true, iff_false, false_iff, not_false_eq_true, not_true_eq_false, true_or, or_true ]
  all_goals grind
theorem ref1_SameValue_eq (N : Nat) (a b : Value) : ref1_SameValue N a b = some (valE a b) := by
  simp only [ref1_SameValue, ref1_SameInts_eq, ref1_SameStrings_eq, Option.bind_some, valE, ite_someB, some_eqB, ite_eqT, if_true, if_false, Bool.false_eq_true, Bool.and_eq_true, Bool.or_eq_true, Bool.not_eq_true', decide_eq_true_eq, decide_eq_false_iff_not, Bool.and_false, Bool.and_true, Bool.or_true, Bool.or_false, Bool.true_or, Bool.false_or, Bool.not_true, Bool.not_false, and_false, false_and, or_false, false_or, Classical.not_not, true_and, and_true, iff_false, false_iff, not_false_eq_true, not_true_eq_false, true_or, or_true ]
  all_goals grind
def nameB (s : ByteArray) : Bool := decide (1 ≤ s.size) && decide (s.size ≤ 32)
theorem turns_name_eq (N : Nat) (s : ByteArray) : turns_name N s = some (nameB s) := by
  simp only [turns_name, nameB, ite_someB, some_eqB, ite_eqT, if_true, if_false, Bool.false_eq_true, Bool.and_eq_true, Bool.or_eq_true, Bool.not_eq_true', decide_eq_true_eq, decide_eq_false_iff_not, Bool.and_false, Bool.and_true, Bool.or_true, Bool.or_false, Bool.true_or, Bool.false_or, Bool.not_true, Bool.not_false, and_false, false_and, or_false, false_or, Classical.not_not, true_and, and_true, iff_false, false_iff, not_false_eq_true, not_true_eq_false, true_or, or_true ] <;> omega
theorem ref24_ValidName_eq (N : Nat) (s : ByteArray) : ref24_ValidName N s = some (nameB s) := by
  simp only [ref24_ValidName, nameB, ite_someB, some_eqB, ite_eqT, if_true, if_false, Bool.false_eq_true, Bool.and_eq_true, Bool.or_eq_true, Bool.not_eq_true', decide_eq_true_eq, decide_eq_false_iff_not, Bool.and_false, Bool.and_true, Bool.or_true, Bool.or_false, Bool.true_or, Bool.false_or, Bool.not_true, Bool.not_false, and_false, false_and, or_false, false_or, Classical.not_not, true_and, and_true, iff_false, false_iff, not_false_eq_true, not_true_eq_false, true_or, or_true ] <;> omega
def numB (n : Int) : Bool := decide (0 ≤ n) && decide (n ≤ 1099511627776)
theorem turns_number_eq (N : Nat) (n : Int) : turns_number N n = some (numB n) := by
  simp only [turns_number, numB, ite_someB, some_eqB, ite_eqT, if_true, if_false, Bool.false_eq_true, Bool.and_eq_true, Bool.or_eq_true, Bool.not_eq_true', decide_eq_true_eq, decide_eq_false_iff_not, Bool.and_false, Bool.and_true, Bool.or_true, Bool.or_false, Bool.true_or, Bool.false_or, Bool.not_true, Bool.not_false, and_false, false_and, or_false, false_or, Classical.not_not, true_and, and_true, iff_false, false_iff, not_false_eq_true, not_true_eq_false, true_or, or_true ] <;> omega
def vrefB (r : Ref) : Bool := decide (1 ≤ r.Type_.size) && decide (r.Type_.size ≤ 32) && decide (r.Key.size ≤ 32)
theorem directory_ValidRef_eq (N : Nat) (r : Ref) : directory_ValidRef N r = some (vrefB r) := by
  simp only [directory_ValidRef, vrefB, ite_someB, some_eqB, ite_eqT, if_true, if_false, Bool.false_eq_true, Bool.and_eq_true, Bool.or_eq_true, Bool.not_eq_true', decide_eq_true_eq, decide_eq_false_iff_not, Bool.and_false, Bool.and_true, Bool.or_true, Bool.or_false, Bool.true_or, Bool.false_or, Bool.not_true, Bool.not_false, and_false, false_and, or_false, false_or, Classical.not_not, true_and, and_true, iff_false, false_iff, not_false_eq_true, not_true_eq_false, true_or, or_true ] <;> omega
theorem ref14_ValidRef_eq (N : Nat) (r : Ref) : ref14_ValidRef N r = some (vrefB r) := by
  simp only [ref14_ValidRef, vrefB, ite_someB, some_eqB, ite_eqT, if_true, if_false, Bool.false_eq_true, Bool.and_eq_true, Bool.or_eq_true, Bool.not_eq_true', decide_eq_true_eq, decide_eq_false_iff_not, Bool.and_false, Bool.and_true, Bool.or_true, Bool.or_false, Bool.true_or, Bool.false_or, Bool.not_true, Bool.not_false, and_false, false_and, or_false, false_or, Classical.not_not, true_and, and_true, iff_false, false_iff, not_false_eq_true, not_true_eq_false, true_or, or_true ] <;> omega
def pathB (l : List Int) : Bool := decide (l.length ≤ 8) && l.all numB
def idB (c : ByteArray) (s : Int) (p : List Int) : Bool := nameB c && decide (1 ≤ s) && decide (s ≤ 1099511627776) && pathB p
theorem any_not {α : Type} (p : α → Bool) (l : List α) : (l.any fun x => !p x) = !(l.all p) := by
  induction l with
  | nil => rfl
  | cons x l ih => simp [ih]
theorem cf_number (N : Nat) (l : List Int) : slices_ContainsFunc_int_turns_validID_1 N l = some (!(l.all numB)) := by
  have h := find_loop (L := slices_IndexFunc_int_turns_validID_1_L1 N) (turns_validID_1 N) (fun n => !numB n) (fun _ => rfl) (fun _ _ _ => rfl) l 0 (fun x _ => by simp [turns_validID_1, turns_number_eq])
  simp only [slices_ContainsFunc_int_turns_validID_1, slices_IndexFunc_int_turns_validID_1, h, Option.bind_some, findP_any, any_not]
theorem turns_validID_eq (N : Nat) (c : ByteArray) (s : Int) (p : List Int) : turns_validID N c s p = some (idB c s p) := by
  simp only [turns_validID, turns_name_eq, turns_number_eq, cf_number, Option.bind_some, idB, pathB, Bool.not_not]
  generalize nameB c = q
  generalize p.all numB = z
  simp only [numB]
  cases q <;> cases z <;> simp only [ite_someB, some_eqB, ite_eqT, if_true, if_false, Bool.false_eq_true, Bool.and_eq_true, Bool.or_eq_true, Bool.not_eq_true', decide_eq_true_eq, decide_eq_false_iff_not, Bool.and_false, Bool.and_true, Bool.or_true, Bool.or_false, Bool.true_or, Bool.false_or, Bool.not_true, Bool.not_false, and_false, false_and, or_false, false_or, Classical.not_not, true_and, and_true, iff_false, false_iff, not_false_eq_true, not_true_eq_false, true_or, or_true ] <;> omega
theorem ref24_validPath_eq (N : Nat) (l : List Int) : ref24_validPath N l = some (pathB l) := by
  have h := all_loop (L := ref24_validPath_L1 l) numB (some (decide (((l.length : Nat) : Int) ≤ 8))) (some false) (fun _ => rfl) (fun x xs v => by
    simp only [ref24_validPath_L1, ref24_validPath_J1, numB]
    by_cases h1 : x < 0
    · have : ¬ 0 ≤ x := by omega
      simp [h1, this]
    · have h1' : 0 ≤ x := by omega
      by_cases h2 : 1099511627776 < x
      · have : ¬ x ≤ 1099511627776 := by omega
        simp [h1, h1', h2, this]
      · have : x ≤ 1099511627776 := by omega
        simp [h1, h1', h2, this]) l 0
  simp only [ref24_validPath, h, pathB, ite_someB, some_eqB, ite_eqT, if_true, if_false, Bool.false_eq_true, Bool.and_eq_true, Bool.or_eq_true, Bool.not_eq_true', decide_eq_true_eq, decide_eq_false_iff_not, Bool.and_false, Bool.and_true, Bool.or_true, Bool.or_false, Bool.true_or, Bool.false_or, Bool.not_true, Bool.not_false, and_false, false_and, or_false, false_or, Classical.not_not, true_and, and_true, iff_false, false_iff, not_false_eq_true, not_true_eq_false, true_or, or_true ]
  generalize l.all numB = z
  cases z <;> simp only [ite_someB, some_eqB, ite_eqT, if_true, if_false, Bool.false_eq_true, Bool.and_eq_true, Bool.or_eq_true, Bool.not_eq_true', decide_eq_true_eq, decide_eq_false_iff_not, Bool.and_false, Bool.and_true, Bool.or_true, Bool.or_false, Bool.true_or, Bool.false_or, Bool.not_true, Bool.not_false, and_false, false_and, or_false, false_or, Classical.not_not, true_and, and_true, iff_false, false_iff, not_false_eq_true, not_true_eq_false, true_or, or_true ] <;> omega
def argsB (l : List Value) : Bool := decide (l.length ≤ 4) && l.all fun v => valueB v && !decide (v.Kind = 0)
theorem cf_args (N : Nat) (l : List Value) : slices_ContainsFunc_Value_turns_validArgs_1 N l = some (!(l.all fun v => valueB v && !decide (v.Kind = 0))) := by
  have h := find_loop (L := slices_IndexFunc_Value_turns_validArgs_1_L1 N) (turns_validArgs_1 N) (fun v => !(valueB v && !decide (v.Kind = 0))) (fun _ => rfl) (fun _ _ _ => rfl) l 0 (fun x _ => by
    simp only [turns_validArgs_1, wire_ValidValue_eq, Option.bind_some]
    by_cases h : x.Kind = 0 <;> simp [h])
  simp only [slices_ContainsFunc_Value_turns_validArgs_1, slices_IndexFunc_Value_turns_validArgs_1, h, Option.bind_some, findP_any, any_not]
theorem turns_validArgs_eq (N : Nat) (l : List Value) : turns_validArgs N l = some (argsB l) := by
  simp only [turns_validArgs, cf_args, Option.bind_some, argsB, Bool.not_not]
  generalize (l.all fun v => valueB v && !decide (v.Kind = 0)) = z
  cases z <;> simp only [ite_someB, some_eqB, ite_eqT, if_true, if_false, Bool.false_eq_true, Bool.and_eq_true, Bool.or_eq_true, Bool.not_eq_true', decide_eq_true_eq, decide_eq_false_iff_not, Bool.and_false, Bool.and_true, Bool.or_true, Bool.or_false, Bool.true_or, Bool.false_or, Bool.not_true, Bool.not_false, and_false, false_and, or_false, false_or, Classical.not_not, true_and, and_true, iff_false, false_iff, not_false_eq_true, not_true_eq_false, true_or, or_true ] <;> omega
theorem ref24_validArgs_eq (N : Nat) (l : List Value) : ref24_validArgs N l = some (argsB l) := by
  have h := all_loop (L := ref24_validArgs_L1 l N) (fun v => valueB v && !decide (v.Kind = 0)) (some (decide (((l.length : Nat) : Int) ≤ 4))) (some false) (fun _ => rfl) (fun x xs v => by
    simp only [ref24_validArgs_L1, ref24_validArgs_J1, ref1_ValidValue_eq, Option.bind_some]
    cases valueB x <;> by_cases h : x.Kind = 0 <;> simp [h]) l 0
  simp only [ref24_validArgs, h, argsB]
  generalize (l.all fun v => valueB v && !decide (v.Kind = 0)) = z
  cases z <;> simp only [ite_someB, some_eqB, ite_eqT, if_true, if_false, Bool.false_eq_true, Bool.and_eq_true, Bool.or_eq_true, Bool.not_eq_true', decide_eq_true_eq, decide_eq_false_iff_not, Bool.and_false, Bool.and_true, Bool.or_true, Bool.or_false, Bool.true_or, Bool.false_or, Bool.not_true, Bool.not_false, and_false, false_and, or_false, false_or, Classical.not_not, true_and, and_true, iff_false, false_iff, not_false_eq_true, not_true_eq_false, true_or, or_true ] <;> omega
def reqB (r : Request) : Bool := idB r.Client r.Seq r.Path && vrefB r.Target && nameB r.Method && argsB r.Args && decide (r.Chain.length = r.Path.length) && r.Chain.all vrefB && numB r.Txn
theorem cf_chain (N : Nat) (l : List Ref) : slices_ContainsFunc_Ref_turns_ValidRequest_1 N l = some (!(l.all vrefB)) := by
  have h := find_loop (L := slices_IndexFunc_Ref_turns_ValidRequest_1_L1 N) (turns_ValidRequest_1 N) (fun n => !vrefB n) (fun _ => rfl) (fun _ _ _ => rfl) l 0 (fun x _ => by simp [turns_ValidRequest_1, directory_ValidRef_eq])
  simp only [slices_ContainsFunc_Ref_turns_ValidRequest_1, slices_IndexFunc_Ref_turns_ValidRequest_1, h, Option.bind_some, findP_any, any_not]
theorem turns_ValidRequest_eq (N : Nat) (r : Request) : turns_ValidRequest N r = some (reqB r) := by
  simp only [turns_ValidRequest, turns_validID_eq, directory_ValidRef_eq, turns_name_eq, turns_validArgs_eq, cf_chain, turns_number_eq, Option.bind_some, reqB]
  generalize r.Chain.all vrefB = z
  generalize idB r.Client r.Seq r.Path = b1
  generalize vrefB r.Target = b2
  generalize nameB r.Method = b3
  generalize argsB r.Args = b4
  generalize numB r.Txn = b5
  cases z <;> cases b1 <;> cases b2 <;> cases b3 <;> cases b4 <;> cases b5 <;> simp only [ite_someB, some_eqB, ite_eqT, if_true, if_false, Bool.false_eq_true, Bool.and_eq_true, Bool.or_eq_true, Bool.not_eq_true', decide_eq_true_eq, decide_eq_false_iff_not, Bool.and_false, Bool.and_true, Bool.or_true, Bool.or_false, Bool.true_or, Bool.false_or, Bool.not_true, Bool.not_false, and_false, false_and, or_false, false_or, Classical.not_not, true_and, and_true, iff_false, false_iff, not_false_eq_true, not_true_eq_false, true_or, or_true ] <;> omega
theorem ref24_ValidRequest_eq (N : Nat) (r : Request) : ref24_ValidRequest N r = some (reqB r) := by
  have h := all_loop (L := ref24_ValidRequest_L1 N) vrefB (some true) (some false) (fun _ => rfl) (fun x xs v => by
    simp only [ref24_ValidRequest_L1, ref14_ValidRef_eq, Option.bind_some]) r.Chain 0
  simp only [ref24_ValidRequest, ref24_ValidRequest_J1, ref24_ValidRequest_J2, h, ref24_ValidName_eq, ref24_validPath_eq, ref14_ValidRef_eq, ref24_validArgs_eq, Option.bind_some, reqB, idB, numB]
  generalize r.Chain.all vrefB = z
  generalize pathB r.Path = b1
  generalize vrefB r.Target = b2
  generalize nameB r.Method = b3
  generalize argsB r.Args = b4
  generalize nameB r.Client = b5
  cases z <;> cases b1 <;> cases b2 <;> cases b3 <;> cases b4 <;> cases b5 <;> simp only [ite_someB, some_eqB, ite_eqT, if_true, if_false, Bool.false_eq_true, Bool.and_eq_true, Bool.or_eq_true, Bool.not_eq_true', decide_eq_true_eq, decide_eq_false_iff_not, Bool.and_false, Bool.and_true, Bool.or_true, Bool.or_false, Bool.true_or, Bool.false_or, Bool.not_true, Bool.not_false, and_false, false_and, or_false, false_or, Classical.not_not, true_and, and_true, iff_false, false_iff, not_false_eq_true, not_true_eq_false, true_or, or_true ] <;> omega
def repB (r : Reply) : Bool := idB r.Client r.Seq r.Path && decide (0 ≤ r.Err) && decide (r.Err ≤ 27) && valueB r.Value_ && (decide (r.Err = 0) || decide (r.Value_.Kind = 0))
theorem turns_ValidReply_eq (N : Nat) (r : Reply) : turns_ValidReply N r = some (repB r) := by
  simp only [turns_ValidReply, turns_validID_eq, wire_ValidValue_eq, Option.bind_some, repB]
  generalize idB r.Client r.Seq r.Path = b1
  generalize valueB r.Value_ = b2
  cases b1 <;> cases b2 <;> simp only [ite_someB, some_eqB, ite_eqT, if_true, if_false, Bool.false_eq_true, Bool.and_eq_true, Bool.or_eq_true, Bool.not_eq_true', decide_eq_true_eq, decide_eq_false_iff_not, Bool.and_false, Bool.and_true, Bool.or_true, Bool.or_false, Bool.true_or, Bool.false_or, Bool.not_true, Bool.not_false, and_false, false_and, or_false, false_or, Classical.not_not, true_and, and_true, iff_false, false_iff, not_false_eq_true, not_true_eq_false, true_or, or_true ] <;> omega
theorem ref24_ValidReply_eq (N : Nat) (r : Reply) : ref24_ValidReply N r = some (repB r) := by
  simp only [ref24_ValidReply, ref24_ValidName_eq, ref24_validPath_eq, ref1_ValidValue_eq, Option.bind_some, repB, idB]
  generalize nameB r.Client = b1
  generalize valueB r.Value_ = b2
  generalize pathB r.Path = b3
  cases b1 <;> cases b2 <;> cases b3 <;> simp only [ite_someB, some_eqB, ite_eqT, if_true, if_false, Bool.false_eq_true, Bool.and_eq_true, Bool.or_eq_true, Bool.not_eq_true', decide_eq_true_eq, decide_eq_false_iff_not, Bool.and_false, Bool.and_true, Bool.or_true, Bool.or_false, Bool.true_or, Bool.false_or, Bool.not_true, Bool.not_false, and_false, false_and, or_false, false_or, Classical.not_not, true_and, and_true, iff_false, false_iff, not_false_eq_true, not_true_eq_false, true_or, or_true ] <;> omega
def sidB (r : Request) (c : ByteArray) (s : Int) (p : List Int) : Bool := sEq r.Client c && decide (r.Seq = s) && intsE r.Path p
theorem turns_SameID_eq (N : Nat) (r : Request) (c : ByteArray) (s : Int) (p : List Int) : turns_SameID N r c s p = some (sidB r c s p) := by
  simp only [turns_SameID, slices_Equal_int_eq, Option.bind_some, sidB]
  cases sEq r.Client c <;> by_cases h : r.Seq = s <;> simp [h]
theorem ref24_SameID_eq (N : Nat) (r : Request) (c : ByteArray) (s : Int) (p : List Int) : ref24_SameID N r c s p = some (sidB r c s p) := by
  simp only [ref24_SameID, ref1_SameInts_eq, Option.bind_some, sidB]
  cases sEq r.Client c <;> by_cases h : r.Seq = s <;> simp [h]
def descB (r c : Request) : Bool := sEq r.Client c.Client && decide (r.Seq = c.Seq) && decide (c.Path.length ≤ r.Path.length) && intsE (r.Path.take c.Path.length) c.Path
theorem slx_take {α β : Type} {l : List α} {n : Nat} {k : List α → Option β} (h : n ≤ l.length) : slx l 0 ((n : Nat) : Int) k = k (l.take n) := by
  unfold slx
  rw [if_pos ⟨by omega, by omega, by simp, by simpa using h⟩]
  simp
theorem turns_Descends_eq (N : Nat) (r c : Request) : turns_Descends N r c = some (descB r c) := by
  simp only [turns_Descends, descB]
  by_cases h : c.Path.length ≤ r.Path.length
  · have h' : ((c.Path.length : Nat) : Int) ≤ ((r.Path.length : Nat) : Int) := by omega
    simp only [slx_take h, slices_Equal_int_eq, Option.bind_some, h, h', decide_true, if_true]
    cases sEq r.Client c.Client <;> by_cases h : r.Seq = c.Seq <;> simp [h]
  · have h' : ¬ ((c.Path.length : Nat) : Int) ≤ ((r.Path.length : Nat) : Int) := by omega
    simp only [h, h', if_false, decide_false]
    cases sEq r.Client c.Client <;> by_cases h : r.Seq = c.Seq <;> simp [h]
theorem ref24_Descends_eq (N : Nat) (r c : Request) : ref24_Descends N r c = some (descB r c) := by
  simp only [ref24_Descends, descB]
  by_cases h : c.Path.length ≤ r.Path.length
  · have h' : ((c.Path.length : Nat) : Int) ≤ ((r.Path.length : Nat) : Int) := by omega
    simp only [slx_take h, ref1_SameInts_eq, Option.bind_some, h, h', decide_true, if_true]
    cases sEq r.Client c.Client <;> by_cases h : r.Seq = c.Seq <;> simp [h]
  · have h' : ¬ ((c.Path.length : Nat) : Int) ≤ ((r.Path.length : Nat) : Int) := by omega
    simp only [h, h', if_false, decide_false]
    cases sEq r.Client c.Client <;> by_cases h : r.Seq = c.Seq <;> simp [h]
end Go.Proofs.Ytmgpaicldmgckaa

set_option linter.unusedSimpArgs false
set_option linter.unusedVariables false
namespace Go.Proofs.Ytmgpaicldmgckaa
open Go Go.Proofs Go.Abs
def zQ : Request := Request.mk (⟨#[]⟩) 0 [] (Ref.mk (⟨#[]⟩) (⟨#[]⟩)) (⟨#[]⟩) [] [] 0
def zP : Reply := Reply.mk (⟨#[]⟩) 0 [] 0 (Value.mk 0 0 (⟨#[]⟩) [] [])
def zA : Actor := Actor.mk (Ref.mk (⟨#[]⟩) (⟨#[]⟩)) 0 []
def zT : Turn := Turn.mk zQ 0 zQ false false zP
def bdV (v : Value) : Prop := v.I.length ≤ 1000 ∧ v.L.length ≤ 1000
def bdQ (r : Request) : Prop := r.Path.length ≤ 1000 ∧ r.Args.length ≤ 1000 ∧ r.Chain.length ≤ 1000 ∧ ∀ v ∈ r.Args, bdV v
def bdP (r : Reply) : Prop := r.Path.length ≤ 1000 ∧ bdV r.Value_
def bdT (t : Turn) : Prop := bdQ t.Request_ ∧ bdQ t.Call ∧ bdP t.Reply_
def bdA (a : Actor) : Prop := a.Stack.length ≤ 1000 ∧ ∀ t ∈ a.Stack, bdT t
theorem clone_int {N : Nat} {l : List Int} (h : l.length ≤ 2000) : slices_Clone_int N l = some l := apn_of (by omega)
theorem clone_Ref {N : Nat} {l : List Ref} (h : l.length ≤ 2000) : slices_Clone_Ref N l = some l := apn_of (by omega)
theorem clone_string {N : Nat} {l : List ByteArray} (h : l.length ≤ 2000) : slices_Clone_string N l = some l := apn_of (by omega)
theorem clone_Value {N : Nat} {l : List Value} (h : l.length ≤ 2000) : slices_Clone_Value N l = some l := apn_of (by omega)
theorem clone_Turn {N : Nat} {l : List Turn} (h : l.length ≤ 2000) : slices_Clone_Turn N l = some l := apn_of (by omega)
theorem cloneValues_eq {N : Nat} {l : List Value} (h : l.length ≤ 1000) (hb : ∀ v ∈ l, bdV v) : turns_cloneValues N l = some l := by
  simp only [turns_cloneValues, clone_Value (show l.length ≤ 2000 by omega), Option.bind_some]
  rw [clone_loop (L := turns_cloneValues_L1 N) bdV (by
    intro m v l x hx hp
    simp only [turns_cloneValues_L1, gx_of hx, clone_int (show x.I.length ≤ 2000 by have := hp.1; omega), clone_string (show x.L.length ≤ 2000 by have := hp.2; omega), Option.bind_some]
    have e : l.set v (Value.mk x.Kind x.N x.S x.I x.L) = l := set_same hx
    rw [e]) (l.length - 0) 0 l (by omega) hb]
  rfl
theorem cloneRequest_eq {N : Nat} {r : Request} (h : bdQ r) : turns_cloneRequest N r = some r := by
  obtain ⟨h1, h2, h3, h4⟩ := h
  simp only [turns_cloneRequest, clone_int (show r.Path.length ≤ 2000 by omega), cloneValues_eq h2 h4, clone_Ref (show r.Chain.length ≤ 2000 by omega), Option.bind_some]
theorem cloneReply_eq {N : Nat} {r : Reply} (h : bdP r) : turns_cloneReply N r = some r := by
  obtain ⟨h1, h2, h3⟩ := h
  simp only [turns_cloneReply, clone_int (show r.Path.length ≤ 2000 by omega), clone_int (show r.Value_.I.length ≤ 2000 by omega), clone_string (show r.Value_.L.length ≤ 2000 by omega), Option.bind_some]
theorem cloneActor_eq {N : Nat} {a : Actor} (h : bdA a) : turns_cloneActor N a = some a := by
  obtain ⟨h1, h2⟩ := h
  simp only [turns_cloneActor, clone_Turn (show a.Stack.length ≤ 2000 by omega), Option.bind_some]
  rw [clone_loop (L := turns_cloneActor_L1 a N) bdT (by
    intro m v l x hx hp
    obtain ⟨p1, p2, p3⟩ := hp
    simp only [turns_cloneActor_L1, gx_of hx, cloneRequest_eq p1, cloneRequest_eq p2, cloneReply_eq p3, Option.bind_some]
    have e : l.set v (Turn.mk x.Request_ x.Calls x.Call x.Started x.Done x.Reply_) = l := set_same hx
    rw [e]) (a.Stack.length - 0) 0 a.Stack (by omega) h2]
  rfl
def reqE (a b : Request) : Bool := sidB a b.Client b.Seq b.Path && refE a.Target b.Target && sEq a.Method b.Method && eqL valE a.Args b.Args && refsE a.Chain b.Chain && decide (a.Txn = b.Txn)
theorem reqE_iff (a b : Request) : reqE a b = true ↔ a = b := by
  obtain ⟨a1, a2, a3, a4, a5, a6, a7, a8⟩ := a
  obtain ⟨b1, b2, b3, b4, b5, b6, b7, b8⟩ := b
  simp only [reqE, sidB, Bool.and_eq_true, sEq_iff', decide_eq_true_eq, intsE_iff, refE_iff, eqL_iff valE_iff, refsE_iff, Request.mk.injEq]
  constructor
  · rintro ⟨⟨⟨⟨⟨⟨⟨h1, h2⟩, h3⟩, h4⟩, h5⟩, h6⟩, h7⟩, h8⟩; exact ⟨h1, h2, h3, h4, h5, h6, h7, h8⟩
  · rintro ⟨h1, h2, h3, h4, h5, h6, h7, h8⟩; exact ⟨⟨⟨⟨⟨⟨⟨h1, h2⟩, h3⟩, h4⟩, h5⟩, h6⟩, h7⟩, h8⟩
theorem ref24_SameRequest_eq (N : Nat) (a b : Request) : ref24_SameRequest N a b = some (reqE a b) := by
  simp only [ref24_SameRequest, ref24_SameRequest_J1, ref24_SameRequest_J2, ref24_SameID_eq, ref24_SameRefs_eq, Option.bind_some, reqE]
  by_cases h : a.Args.length = b.Args.length
  · have h' : ((a.Args.length : Nat) : Int) = ((b.Args.length : Nat) : Int) := by omega
    have hl := eq_loop (L := ref24_SameRequest_L1 b N) b.Args valE (fun _ => rfl) (fun x xs v => by simp only [ref24_SameRequest_L1, ref1_SameValue_eq, Option.bind_some]) a.Args 0 (by omega)
    rw [List.drop_zero] at hl
    simp only [hl, h', eqL, h, decide_true, if_true, Bool.true_and, refE]
    cases sidB a b.Client b.Seq b.Path <;> cases (sEq a.Target.Type_ b.Target.Type_ && sEq a.Target.Key b.Target.Key) <;> cases sEq a.Method b.Method <;> cases refsE a.Chain b.Chain <;> by_cases ht : a.Txn = b.Txn <;> simp [ht]
  · have h' : ¬ ((a.Args.length : Nat) : Int) = ((b.Args.length : Nat) : Int) := by omega
    simp only [h', eqL, h, decide_false, if_false, Bool.false_and, Bool.and_false]
    cases sidB a b.Client b.Seq b.Path <;> cases (sEq a.Target.Type_ b.Target.Type_ && sEq a.Target.Key b.Target.Key) <;> cases sEq a.Method b.Method <;> simp
theorem ref24_running_eq (N : Nat) (t : Turn) : ref24_running N t = some (reqE t.Call zQ) := by
  simp only [ref24_running, ref24_SameRequest_eq, Option.bind_some]; rfl
theorem turns_zeroRequest_eq (N : Nat) (r : Request) : turns_zeroRequest N r = some (reqE r zQ) := by
  obtain ⟨a1, a2, a3, ⟨a4, a4'⟩, a5, a6, a7, a8⟩ := r
  simp only [turns_zeroRequest, ite_someB, some_eqB, ite_eqT, if_true, if_false, Bool.false_eq_true, Bool.and_eq_true, Bool.or_eq_true, Bool.not_eq_true', decide_eq_true_eq, decide_eq_false_iff_not, Bool.and_false, Bool.and_true, Bool.or_true, Bool.or_false, Bool.true_or, Bool.false_or, Bool.not_true, Bool.not_false, and_false, false_and, or_false, false_or, Classical.not_not, true_and, and_true, iff_false, false_iff, not_false_eq_true, not_true_eq_false, true_or, or_true , reqE_iff, zQ, Request.mk.injEq, Ref.mk.injEq, sEq_iff', Int.natCast_eq_zero, List.length_eq_zero_iff]
  all_goals grind
def repE (a b : Reply) : Bool := sEq a.Client b.Client && decide (a.Seq = b.Seq) && intsE a.Path b.Path && decide (a.Err = b.Err) && valE a.Value_ b.Value_
theorem repE_iff (a b : Reply) : repE a b = true ↔ a = b := by
  obtain ⟨a1, a2, a3, a4, a5⟩ := a
  obtain ⟨b1, b2, b3, b4, b5⟩ := b
  simp [repE, sEq_iff', intsE_iff, valE_iff, and_assoc]
theorem ref24_SameReply_eq (N : Nat) (a b : Reply) : ref24_SameReply N a b = some (repE a b) := by
  simp only [ref24_SameReply, ref1_SameInts_eq, ref1_SameValue_eq, Option.bind_some, repE]
  cases sEq a.Client b.Client <;> cases intsE a.Path b.Path <;> by_cases h1 : a.Seq = b.Seq <;> by_cases h2 : a.Err = b.Err <;> simp [h1, h2]
theorem turns_zeroReply_eq (N : Nat) (r : Reply) : turns_zeroReply N r = some (repE r zP) := by
  simp only [turns_zeroReply, wire_SameValue_eq, Option.bind_some, repE, zP]
  have e : intsE r.Path [] = decide (((r.Path.length : Nat) : Int) = 0) := by
    rw [bool_eqB, intsE_iff, decide_eq_true_eq]
    constructor
    · rintro h; rw [h]; rfl
    · intro h; exact List.eq_nil_of_length_eq_zero (by omega)
  rw [e]
  generalize ((r.Path.length : Nat) : Int) = pl
  cases sEq r.Client ⟨#[]⟩ <;> by_cases h1 : r.Seq = 0 <;> by_cases h2 : r.Err = 0 <;> by_cases h3 : pl = 0 <;> simp [h1, h2, h3]
def callB (self : Ref) (t : Turn) : Bool := reqB t.Call && decide (1 ≤ t.Calls) && sEq t.Call.Client t.Request_.Client && decide (t.Call.Seq = t.Request_.Seq) && decide (t.Call.Txn = t.Request_.Txn) &&
  intsE t.Call.Path (t.Request_.Path ++ [IntKind.i64.wrap (t.Calls - 1)]) && refsE t.Call.Chain (t.Request_.Chain ++ [self])
theorem turns_validCall_eq {N : Nat} {self : Ref} {t : Turn} (h : bdT t) : turns_validCall N self t = some (callB self t) := by
  obtain ⟨⟨h1, _, h3, _⟩, _⟩ := h
  simp only [turns_validCall, turns_validCall_J1, turns_validCall_J2, turns_ValidRequest_eq, clone_int (show t.Request_.Path.length ≤ 2000 by omega), clone_Ref (show t.Request_.Chain.length ≤ 2000 by omega), Option.bind_some,
    apx_of (show (t.Request_.Path.length + [IntKind.i64.wrap (t.Calls - 1)].length) * (8 + 1) ≤ 140737488355328 by simp; omega), apx_of (show (t.Request_.Chain.length + [self].length) * (32 + 1) ≤ 140737488355328 by simp; omega), slices_Equal_int_eq, slices_Equal_Ref_eq, callB]
  have e : decide (1 ≤ t.Calls) = !decide (t.Calls < 1) := by
    by_cases h : t.Calls < 1
    · have : ¬ 1 ≤ t.Calls := by omega
      simp [h, this]
    · have : 1 ≤ t.Calls := by omega
      simp [h, this]
  rw [e]
  generalize intsE t.Call.Path (t.Request_.Path ++ [IntKind.i64.wrap (t.Calls - 1)]) = b1
  generalize refsE t.Call.Chain (t.Request_.Chain ++ [self]) = b2
  generalize reqB t.Call = b3
  generalize sEq t.Call.Client t.Request_.Client = b4
  cases b3
  · simp
  · by_cases c1 : t.Calls < 1
    · simp [c1]
    · cases b4
      · simp [c1]
      · by_cases c2 : t.Call.Seq = t.Request_.Seq
        · by_cases c3 : t.Call.Txn = t.Request_.Txn
          · cases b1 <;> cases b2 <;> simp [c1, c2, c3]
          · simp [c1, c2, c3]
        · simp [c1, c2]
def bodyB (self : Ref) (t : Turn) : Bool := if reqE t.Call zQ = true then !t.Started && !t.Done && repE t.Reply_ zP
  else callB self t && (if t.Done = true then t.Started && repB t.Reply_ && sidB t.Call t.Reply_.Client t.Reply_.Seq t.Reply_.Path else repE t.Reply_ zP)
def headB (self : Ref) (t : Turn) : Bool := reqB t.Request_ && refE t.Request_.Target self && numB t.Calls
def turnB (self : Ref) (t : Turn) : Bool := headB self t && bodyB self t
theorem turns_validTurn_eq {N : Nat} {self : Ref} {t : Turn} (h : bdT t) : turns_validTurn N self t = some (turnB self t) := by
  simp only [turns_validTurn, turns_validTurn_J1, turns_validTurn_J2, turns_ValidRequest_eq, turns_number_eq, turns_zeroRequest_eq, turns_zeroReply_eq, turns_validCall_eq h, turns_ValidReply_eq, turns_SameID_eq, Option.bind_some, turnB, headB, bodyB]
  change (if reqB t.Request_ = true then if refE t.Request_.Target self = true then _ else _ else _) = _
  generalize reqB t.Request_ = b1
  generalize refE t.Request_.Target self = b2
  generalize numB t.Calls = b3
  generalize reqE t.Call zQ = b4
  generalize callB self t = b5
  generalize repE t.Reply_ zP = b6
  generalize repB t.Reply_ = b7
  generalize sidB t.Call t.Reply_.Client t.Reply_.Seq t.Reply_.Path = b8
  cases b1
  · simp
  cases b2
  · simp
  cases b3
  · simp
  cases b4
  · cases b5
    · simp
    · cases t.Done
      · simp
      · cases t.Started
        · simp
        · cases b7 <;> cases b8 <;> simp
  · cases t.Started
    · cases t.Done <;> simp
    · simp
def waitsB (t : Turn) : Bool := !(reqE t.Call zQ) && t.Started && !t.Done
theorem turns_running_eq (N : Nat) (t : Turn) : turns_running N t = some (reqE t.Call zQ) := by simp only [turns_running, turns_zeroRequest_eq, Option.bind_some]
theorem turns_waits_eq (N : Nat) (t : Turn) : turns_waits N t = some (waitsB t) := by
  simp only [turns_waits, turns_running_eq, Option.bind_some, waitsB]
  cases reqE t.Call zQ <;> cases t.Started <;> simp
def belowB : Option Turn → Turn → Bool
  | none, _ => true
  | some b, t => waitsB b && descB t.Request_ b.Call
def stackB (self : Ref) : Option Turn → List Turn → Bool
  | _, [] => true
  | p, t :: l => turnB self t && belowB p t && stackB self (some t) l
def prevT (l : List Turn) : Nat → Option Turn
  | 0 => none
  | v + 1 => l[v]?
theorem turns_Valid_L1_eq {N : Nat} {a : Actor} (h : bdA a) : ∀ (xs : List Turn) (v : Nat), a.Stack.drop v = xs → v ≤ a.Stack.length → turns_Valid_L1 N a xs v () = some (stackB a.Self (prevT a.Stack v) xs)
  | [], v, _, _ => rfl
  | x :: xs, v, hd, hv => by
    have hlt : v < a.Stack.length := by
      rcases Nat.lt_or_ge v a.Stack.length with h | h
      · exact h
      · rw [List.drop_eq_nil_of_le h] at hd; cases hd
    rw [List.drop_eq_getElem_cons hlt] at hd
    simp only [List.cons.injEq] at hd
    have hx : a.Stack[v]? = some x := by rw [List.getElem?_eq_getElem hlt, hd.1]
    have ih := turns_Valid_L1_eq (N := N) h xs (v + 1) hd.2 (by omega)
    have hb := h.2 x (List.mem_of_getElem? hx)
    have hp : prevT a.Stack (v + 1) = some x := hx
    rw [hp] at ih
    simp only [turns_Valid_L1, turns_Valid_J2, turns_validTurn_eq hb, Option.bind_some, ih, stackB]
    cases v with
    | zero =>
      simp only [prevT, belowB]
      cases turnB a.Self x <;> simp
    | succ v =>
      have hv' : v < a.Stack.length := by omega
      have e : IntKind.i64.wrap (((v + 1 : Nat) : Int) - 1) = ((v : Nat) : Int) := by rw [w64' (by omega) (by have := h.1; omega)]; omega
      have hy : a.Stack[v]? = some a.Stack[v] := List.getElem?_eq_getElem hv'
      have h0 : ¬ ((v + 1 : Nat) : Int) = 0 := by omega
      simp only [h0, if_false, e, gx_of hy, turns_waits_eq, turns_Descends_eq, Option.bind_some, prevT, hy, belowB]
      cases turnB a.Self x <;> cases waitsB a.Stack[v] <;> cases descB x.Request_ a.Stack[v].Call <;> simp
def actB (a : Actor) : Bool := vrefB a.Self && numB a.Index && decide (a.Stack.length ≤ 9) && stackB a.Self none a.Stack
theorem turns_Valid_eq {N : Nat} {a : Actor} (h : bdA a) : turns_Valid N a = some (actB a) := by
  have hl := turns_Valid_L1_eq (N := N) h a.Stack 0 rfl (by omega)
  simp only [turns_Valid, turns_Valid_J1, turns_Valid_J3, directory_ValidRef_eq, turns_number_eq, hl, Option.bind_some, actB, prevT]
  generalize stackB a.Self none a.Stack = b1
  generalize vrefB a.Self = b2
  generalize numB a.Index = b3
  cases b1 <;> cases b2 <;> cases b3 <;> simp only [ite_someB, some_eqB, ite_eqT, if_true, if_false, Bool.false_eq_true, Bool.and_eq_true, Bool.or_eq_true, Bool.not_eq_true', decide_eq_true_eq, decide_eq_false_iff_not, Bool.and_false, Bool.and_true, Bool.or_true, Bool.or_false, Bool.true_or, Bool.false_or, Bool.not_true, Bool.not_false, and_false, false_and, or_false, false_or, Classical.not_not, true_and, and_true, iff_false, false_iff, not_false_eq_true, not_true_eq_false, true_or, or_true ] <;> omega
def prevR : Option Turn → Turn → Bool
  | none, _ => true
  | some b, t => descB t.Request_ b.Call && b.Started && !b.Done
def bodyR (self : Ref) (t : Turn) (last : Bool) : Bool := if reqE t.Call zQ = true then last && !t.Started && !t.Done && repE t.Reply_ zP
  else callB self t && (if t.Done = true then t.Started && repB t.Reply_ && sidB t.Call t.Reply_.Client t.Reply_.Seq t.Reply_.Path else repE t.Reply_ zP)
theorem ref24_turn_eq {N : Nat} {a : Actor} (h : bdA a) {i : Nat} {t : Turn} (hx : a.Stack[i]? = some t) : ref24_turn N a ((i : Nat) : Int) = some (headB a.Self t && prevR (prevT a.Stack i) t && bodyR a.Self t (decide (i + 1 = a.Stack.length))) := by
  have hlt := (List.getElem?_eq_some_iff.1 hx).1
  have hb := h.2 t (List.mem_of_getElem? hx)
  have hlen := h.1
  obtain ⟨⟨h1, _, h3, _⟩, _⟩ := hb
  have hJ5 : ref24_turn_J5 N t ((i : Nat) : Int) a = some (bodyR a.Self t (decide (i + 1 = a.Stack.length))) := by
    have e1 : IntKind.i64.wrap (((a.Stack.length : Nat) : Int) - 1) = ((a.Stack.length - 1 : Nat) : Int) := by rw [w64' (by omega) (by omega)]; omega
    have e2 : (((i : Nat) : Int) = ((a.Stack.length - 1 : Nat) : Int)) = (i + 1 = a.Stack.length) := by apply propext; omega
    simp only [ref24_turn_J5, ref24_turn_J3, ref24_turn_J4, ref24_running_eq, ref24_SameReply_eq, ref24_ValidRequest_eq, ref24_ValidReply_eq, ref24_SameID_eq, ref1_SameInts_eq, ref24_SameRefs_eq, Option.bind_some, e1, e2,
      apn_of (show t.Request_.Path.length * (8 + 1) ≤ 140737488355328 by omega), apx_of (show (t.Request_.Path.length + [IntKind.i64.wrap (t.Calls - 1)].length) * (8 + 1) ≤ 140737488355328 by simp; omega),
      apn_of (show t.Request_.Chain.length * (32 + 1) ≤ 140737488355328 by omega), apx_of (show (t.Request_.Chain.length + [a.Self].length) * (32 + 1) ≤ 140737488355328 by simp; omega), bodyR, callB]
    have e : decide (1 ≤ t.Calls) = !decide (t.Calls < 1) := by
      by_cases h : t.Calls < 1
      · have : ¬ 1 ≤ t.Calls := by omega
        simp [h, this]
      · have : 1 ≤ t.Calls := by omega
        simp [h, this]
    rw [e]
    change (if reqE t.Call zQ = true then (if i + 1 = a.Stack.length then if t.Started = true then _ else if t.Done = true then _ else some (repE t.Reply_ zP) else _) else _) = _
    generalize intsE t.Call.Path (t.Request_.Path ++ [IntKind.i64.wrap (t.Calls - 1)]) = b1
    generalize refsE t.Call.Chain (t.Request_.Chain ++ [a.Self]) = b2
    generalize reqB t.Call = b3
    generalize sEq t.Call.Client t.Request_.Client = b4
    generalize reqE t.Call zQ = b5
    change (if b5 = true then _ else if b3 = true then _ else _) = some (if b5 = true then _ && repE t.Reply_ zP else _ && (if t.Done = true then _ else repE t.Reply_ zP))
    generalize repB t.Reply_ = b7
    generalize sidB t.Call t.Reply_.Client t.Reply_.Seq t.Reply_.Path = b8
    cases b5
    · cases b3
      · simp
      by_cases c1 : t.Calls < 1
      · simp [c1]
      cases b4
      · simp [c1]
      by_cases c2 : t.Call.Seq = t.Request_.Seq
      · by_cases c3 : t.Call.Txn = t.Request_.Txn
        · cases b1
          · simp [c1, c2, c3]
          · cases b2
            · simp [c1, c2, c3]
            · cases t.Done
              · simp [c1, c2, c3]; rfl
              · cases t.Started <;> cases b7 <;> cases b8 <;> simp [c1, c2, c3]
        · simp [c1, c2, c3]
      · simp [c1, c2]
    · by_cases c : i + 1 = a.Stack.length
      · cases t.Started <;> cases t.Done <;> simp [c]
      · simp [c]
  simp only [ref24_turn, gx_of hx, ref24_ValidRequest_eq, Option.bind_some, ref24_turn_J1, ref24_turn_J6, ref24_turn_J2, hJ5, headB]
  change (if reqB t.Request_ = true then (if refE t.Request_.Target a.Self = true then _ else _) else _) = _
  have en : numB t.Calls = (!decide (t.Calls < 0) && !decide (1099511627776 < t.Calls)) := by
    rw [bool_eqB]; simp only [numB, ite_someB, some_eqB, ite_eqT, if_true, if_false, Bool.false_eq_true, Bool.and_eq_true, Bool.or_eq_true, Bool.not_eq_true', decide_eq_true_eq, decide_eq_false_iff_not, Bool.and_false, Bool.and_true, Bool.or_true, Bool.or_false, Bool.true_or, Bool.false_or, Bool.not_true, Bool.not_false, and_false, false_and, or_false, false_or, Classical.not_not, true_and, and_true, iff_false, false_iff, not_false_eq_true, not_true_eq_false, true_or, or_true ]; omega
  rw [en]
  generalize bodyR a.Self t (decide (i + 1 = a.Stack.length)) = b9
  generalize reqB t.Request_ = b1
  generalize refE t.Request_.Target a.Self = b2
  cases b1
  · simp
  cases b2
  · simp
  by_cases c1 : t.Calls < 0
  · simp [c1]
  by_cases c2 : 1099511627776 < t.Calls
  · simp [c1, c2]
  cases i with
  | zero => simp [c1, c2, prevT, prevR]
  | succ i =>
    have hv' : i < a.Stack.length := by omega
    have e : IntKind.i64.wrap (((i + 1 : Nat) : Int) - 1) = ((i : Nat) : Int) := by rw [w64' (by omega) (by omega)]; omega
    have hy : a.Stack[i]? = some a.Stack[i] := List.getElem?_eq_getElem hv'
    have h0 : (0 : Int) < ((i + 1 : Nat) : Int) := by omega
    simp only [c1, c2, h0, if_true, e, gx_of hy, ref24_Descends_eq, Option.bind_some, prevT, hy, prevR]
    cases descB t.Request_ a.Stack[i].Call <;> cases a.Stack[i].Started <;> cases a.Stack[i].Done <;> simp
def stackR (self : Ref) : Option Turn → List Turn → Bool
  | _, [] => true
  | p, t :: l => headB self t && prevR p t && bodyR self t l.isEmpty && stackR self (some t) l
theorem ref24_Valid_L1_eq {N : Nat} {a : Actor} (h : bdA a) : ∀ (xs : List Turn) (v : Nat), a.Stack.drop v = xs → v ≤ a.Stack.length → ref24_Valid_L1 N a xs.length v () = some (stackR a.Self (prevT a.Stack v) xs)
  | [], v, _, _ => rfl
  | x :: xs, v, hd, hv => by
    have hlt : v < a.Stack.length := by
      rcases Nat.lt_or_ge v a.Stack.length with h | h
      · exact h
      · rw [List.drop_eq_nil_of_le h] at hd; cases hd
    have hlen : a.Stack.length - v = xs.length + 1 := by have := congrArg List.length hd; simpa using this
    rw [List.drop_eq_getElem_cons hlt] at hd
    simp only [List.cons.injEq] at hd
    have hx : a.Stack[v]? = some x := by rw [List.getElem?_eq_getElem hlt, hd.1]
    have ih := ref24_Valid_L1_eq (N := N) h xs (v + 1) hd.2 (by omega)
    have hp : prevT a.Stack (v + 1) = some x := hx
    rw [hp] at ih
    have el : decide (v + 1 = a.Stack.length) = xs.isEmpty := by
      cases xs with
      | nil => simp at hlen ⊢; omega
      | cons y ys => simp at hlen ⊢; omega
    simp only [List.length_cons, ref24_Valid_L1, ref24_turn_eq h hx, Option.bind_some, ih, stackR, el]
    cases (headB a.Self x && prevR (prevT a.Stack v) x && bodyR a.Self x xs.isEmpty) <;> simp
theorem stackR_eq (self : Ref) : ∀ (l : List Turn) (p : Option Turn), (∀ b, p = some b → turnB self b = true) → stackR self p l = stackB self p l
  | [], p, _ => rfl
  | t :: l, p, hp => by
    have hpr : prevR p t = belowB p t := by
      cases p with
      | none => rfl
      | some b =>
        have := hp b rfl
        simp only [turnB, bodyB, Bool.and_eq_true] at this
        simp only [prevR, belowB, waitsB]
        cases hz : reqE b.Call zQ
        · cases descB t.Request_ b.Call <;> cases b.Started <;> cases b.Done <;> rfl
        · rw [hz] at this
          simp only [if_true, Bool.and_eq_true, Bool.not_eq_true'] at this
          rw [this.2.1.1]
          cases descB t.Request_ b.Call <;> rfl
    simp only [stackR, stackB, hpr, turnB]
    by_cases ht : turnB self t = true
    · have ih := stackR_eq self l (some t) (fun b hb => by cases hb; exact ht)
      rw [ih]
      simp only [turnB, Bool.and_eq_true] at ht
      cases hz : reqE t.Call zQ
      · have : bodyR self t l.isEmpty = bodyB self t := by simp [bodyR, bodyB, hz]
        rw [this, ht.1, ht.2]; simp
      · cases l with
        | nil =>
          have : bodyR self t ([] : List Turn).isEmpty = bodyB self t := by simp [bodyR, bodyB, hz]
          rw [this, ht.1, ht.2]; simp
        | cons t2 l2 =>
          have h1 : bodyR self t (t2 :: l2).isEmpty = false := by simp [bodyR, hz]
          have h2 : stackB self (some t) (t2 :: l2) = false := by simp [stackB, belowB, waitsB, hz]
          rw [h1, h2]; simp
    · have h0 : (headB self t && bodyB self t) = false := by simpa [turnB] using ht
      have h1 : (headB self t && bodyR self t l.isEmpty) = false := by
        cases hh : headB self t
        · rfl
        · rw [hh] at h0
          simp only [Bool.true_and] at h0 ⊢
          unfold bodyR
          unfold bodyB at h0
          cases hz : reqE t.Call zQ
          · rw [hz] at h0; simpa using h0
          · rw [hz] at h0
            simp only [if_true] at h0 ⊢
            cases l.isEmpty
            · simp
            · simpa using h0
      rw [h0]
      cases hh : headB self t
      · simp
      · rw [hh] at h1
        simp only [Bool.true_and] at h1
        rw [h1]; simp
theorem ref24_Valid_eq {N : Nat} {a : Actor} (h : bdA a) : ref24_Valid N a = some (actB a) := by
  have hl := ref24_Valid_L1_eq (N := N) h a.Stack 0 rfl (by omega)
  rw [show prevT a.Stack 0 = none from rfl, stackR_eq a.Self a.Stack none (by simp)] at hl
  simp only [ref24_Valid, ref24_Valid_J1, ref24_Valid_J2, ref14_ValidRef_eq, Nat.sub_zero, hl, Option.bind_some, actB, numB]
  generalize stackB a.Self none a.Stack = b1
  generalize vrefB a.Self = b2
  cases b1 <;> cases b2 <;> simp only [ite_someB, some_eqB, ite_eqT, if_true, if_false, Bool.false_eq_true, Bool.and_eq_true, Bool.or_eq_true, Bool.not_eq_true', decide_eq_true_eq, decide_eq_false_iff_not, Bool.and_false, Bool.and_true, Bool.or_true, Bool.or_false, Bool.true_or, Bool.false_or, Bool.not_true, Bool.not_false, and_false, false_and, or_false, false_or, Classical.not_not, true_and, and_true, iff_false, false_iff, not_false_eq_true, not_true_eq_false, true_or, or_true ] <;> omega
end Go.Proofs.Ytmgpaicldmgckaa

set_option linter.unusedSimpArgs false
set_option linter.unusedVariables false
namespace Go.Proofs.Ytmgpaicldmgckaa
open Go Go.Proofs Go.Abs
def turnE (a b : Turn) : Bool := reqE a.Request_ b.Request_ && decide (a.Calls = b.Calls) && reqE a.Call b.Call && decide (a.Started = b.Started) && decide (a.Done = b.Done) && repE a.Reply_ b.Reply_
theorem turnE_iff (a b : Turn) : turnE a b = true ↔ a = b := by
  obtain ⟨a1, a2, a3, a4, a5, a6⟩ := a
  obtain ⟨b1, b2, b3, b4, b5, b6⟩ := b
  simp [turnE, reqE_iff, repE_iff, and_assoc]
theorem ref24_SameTurn_eq (N : Nat) (a b : Turn) : ref24_SameTurn N a b = some (turnE a b) := by
  simp only [ref24_SameTurn, ref24_SameRequest_eq, ref24_SameReply_eq, Option.bind_some, turnE]
  generalize reqE a.Request_ b.Request_ = b1
  generalize reqE a.Call b.Call = b2
  generalize repE a.Reply_ b.Reply_ = b3
  by_cases c1 : a.Calls = b.Calls <;> by_cases c2 : a.Started = b.Started <;> by_cases c3 : a.Done = b.Done <;> cases b1 <;> cases b2 <;> cases b3 <;> simp [c1, c2, c3]
def actE (a b : Actor) : Bool := refE a.Self b.Self && decide (a.Index = b.Index) && eqL turnE a.Stack b.Stack
theorem actE_iff (a b : Actor) : actE a b = true ↔ a = b := by
  obtain ⟨a1, a2, a3⟩ := a
  obtain ⟨b1, b2, b3⟩ := b
  simp [actE, refE_iff, eqL_iff turnE_iff, and_assoc]
theorem ref24_Same_eq (N : Nat) (a b : Actor) : ref24_Same N a b = some (actE a b) := by
  simp only [ref24_Same, ref24_Same_J1, ref24_Same_J2, actE]
  by_cases h : a.Stack.length = b.Stack.length
  · have h' : ((a.Stack.length : Nat) : Int) = ((b.Stack.length : Nat) : Int) := by omega
    have hl := eq_loop (L := ref24_Same_L1 b N) b.Stack turnE (fun _ => rfl) (fun x xs v => by simp only [ref24_Same_L1, ref24_SameTurn_eq, Option.bind_some]) a.Stack 0 (by omega)
    rw [List.drop_zero] at hl
    simp only [hl, h', eqL, h, decide_true, if_true, Bool.true_and, refE]
    by_cases ht : a.Index = b.Index <;> cases (sEq a.Self.Type_ b.Self.Type_ && sEq a.Self.Key b.Self.Key) <;> simp [ht]
  · have h' : ¬ ((a.Stack.length : Nat) : Int) = ((b.Stack.length : Nat) : Int) := by omega
    simp only [h', eqL, h, decide_false, if_false, Bool.false_and, Bool.and_false, refE]
    by_cases ht : a.Index = b.Index <;> cases (sEq a.Self.Type_ b.Self.Type_ && sEq a.Self.Key b.Self.Key) <;> simp [ht]
theorem same_refl (N : Nat) (a : Actor) : ref24_Same N a a = some true := by rw [ref24_Same_eq, (actE_iff a a).2 rfl]
theorem sameQ_refl (N : Nat) (a : Request) : ref24_SameRequest N a a = some true := by rw [ref24_SameRequest_eq, (reqE_iff a a).2 rfl]
theorem sameP_refl (N : Nat) (a : Reply) : ref24_SameReply N a a = some true := by rw [ref24_SameReply_eq, (repE_iff a a).2 rfl]
theorem getLast_at {α : Type} {l : List α} (h : l ≠ []) : l[l.length - 1]? = some (l.getLast h) := by
  have : l.length - 1 < l.length := by have := List.length_pos_iff.2 h; omega
  rw [List.getElem?_eq_getElem this, List.getLast_eq_getElem]
def topB (a : Actor) : Turn × Bool := match a.Stack.getLast? with
  | some t => (t, true)
  | none => (zT, false)
theorem topB_nil {a : Actor} (h : a.Stack = []) : topB a = (zT, false) := by simp [topB, h]
theorem topB_cons {a : Actor} (h : a.Stack ≠ []) : topB a = (a.Stack.getLast h, true) := by simp [topB, List.getLast?_eq_some_getLast h]
theorem turns_top_eq {N : Nat} {a : Actor} (h : bdA a) : turns_top N a = some (topB a) := by
  have hb := h.1
  simp only [turns_top]
  by_cases h0 : a.Stack = []
  · rw [if_pos (by rw [h0]; rfl), topB_nil h0]; rfl
  · have hp := List.length_pos_iff.2 h0
    rw [if_neg (by omega), topB_cons h0, w64' (by omega) (by omega), show ((a.Stack.length : Nat) : Int) - 1 = ((a.Stack.length - 1 : Nat) : Int) from by omega, gx_of (getLast_at h0)]
theorem ref24_top_eq {N : Nat} {a : Actor} (h : bdA a) : ref24_top N a = some (topB a) := turns_top_eq (N := N) h
theorem topB_bd {a : Actor} (h : bdA a) : bdT (topB a).1 := by
  by_cases h0 : a.Stack = []
  · rw [topB_nil h0]; simp [zT, zQ, zP, bdT, bdQ, bdP, bdV]
  · rw [topB_cons h0]; exact h.2 _ (List.getLast_mem h0)
def suspB (a : Actor) : Turn × Bool := ((topB a).1, (topB a).2 && !reqE (topB a).1.Call zQ)
theorem turns_suspended_eq {N : Nat} {a : Actor} (h : bdA a) : turns_suspended N a = some (suspB a) := by
  simp only [turns_suspended, turns_top_eq h, turns_running_eq, Option.bind_some, suspB]
  cases (topB a).2 <;> simp
theorem actB_len {a : Actor} (h : actB a = true) : a.Stack.length ≤ 9 := by
  simp only [actB, Bool.and_eq_true, decide_eq_true_eq] at h; exact h.1.2
def chgB (a : Actor) (l : List Turn) : Actor × Int := if a.Index = 1099511627776 then (zA, 5) else (Actor.mk a.Self (IntKind.i64.wrap (a.Index + 1)) l, 0)
theorem turns_changed_eq {N : Nat} {a : Actor} (h : bdA a) {k : Nat} (hk : k ≤ a.Stack.length) {l : List Turn} (hl : l.length ≤ 5) (hb : ∀ t ∈ l, bdT t) (hs : a.Stack.length ≤ 900) : turns_changed N a ((k : Nat) : Int) l = some (chgB a (a.Stack.take k ++ l)) := by
  simp only [turns_changed, chgB]
  by_cases hi : a.Index = 1099511627776
  · simp only [hi, if_true]; rfl
  · have hlt : (a.Stack.take k).length ≤ 900 := by rw [List.length_take]; omega
    have hbd : bdA (Actor.mk a.Self (IntKind.i64.wrap (a.Index + 1)) (a.Stack.take k ++ l)) := by
      refine ⟨by simp only [List.length_append]; omega, fun t ht => ?_⟩
      rcases List.mem_append.1 ht with ht | ht
      · exact h.2 t (List.mem_of_mem_take ht)
      · exact hb t ht
    simp only [hi, if_false]
    unfold slt
    rw [if_pos ⟨by omega, by simpa using hk⟩, Int.toNat_natCast]
    change apx 456 (a.Stack.take k) l _ = _
    rw [apx_of (by omega), cloneActor_eq hbd]
    rfl
theorem turns_replaced_eq {N : Nat} {a : Actor} (h : bdA a) (h0 : a.Stack ≠ []) {t : Turn} (hb : bdT t) (hs : a.Stack.length ≤ 900) : turns_replaced N a t = some (chgB a (a.Stack.dropLast ++ [t])) := by
  have hp := List.length_pos_iff.2 h0
  rw [turns_replaced, w64' (by omega) (by omega), show ((a.Stack.length : Nat) : Int) - 1 = ((a.Stack.length - 1 : Nat) : Int) from by omega, turns_changed_eq h (by omega) (by simp) (by simpa using hb) hs, List.dropLast_eq_take]
  rfl
theorem ref24_with_eq {N : Nat} {a : Actor} (h0 : a.Stack ≠ []) {t : Turn} (hs : a.Stack.length ≤ 900) : ref24_with N a t = some (chgB a (a.Stack.dropLast ++ [t])) := by
  have hp := List.length_pos_iff.2 h0
  simp only [ref24_with, chgB]
  by_cases hi : a.Index = 1099511627776
  · simp only [hi, if_true]; rfl
  · simp only [hi, if_false]
    have hlt : (a.Stack.take (a.Stack.length - 1)).length ≤ 900 := by rw [List.length_take]; omega
    rw [w64' (by omega) (by omega), show ((a.Stack.length : Nat) : Int) - 1 = ((a.Stack.length - 1 : Nat) : Int) from by omega, slx_take (by omega), apn_of (by omega), apx_of (by simp only [List.length_cons, List.length_nil]; omega), List.dropLast_eq_take]
theorem topB_some {a : Actor} (h : (topB a).2 = true) : a.Stack ≠ [] := by
  intro h0; rw [topB_nil h0] at h; cases h
theorem bdT_mk {q c : Request} {p : Reply} {n : Int} {s d : Bool} (h1 : bdQ q) (h2 : bdQ c) (h3 : bdP p) : bdT (Turn.mk q n c s d p) := ⟨h1, h2, h3⟩
def nestB (t : Turn) (self target : Ref) (method : ByteArray) (args : List Value) : Request × Int :=
  if (reqB t.Request_ && numB t.Calls && vrefB self && vrefB target && nameB method && argsB args) = true then
    if t.Request_.Path.length = 8 ∨ t.Calls = 1099511627776 then (zQ, 5)
    else (Request.mk t.Request_.Client t.Request_.Seq (t.Request_.Path ++ [t.Calls]) target method args (t.Request_.Chain ++ [self]) t.Request_.Txn, 0)
  else (zQ, 1)
theorem reqB_len {r : Request} (h : reqB r = true) : r.Path.length ≤ 8 := by
  simp only [reqB, idB, pathB, Bool.and_eq_true, decide_eq_true_eq] at h; omega
theorem turns_Nested_eq {N : Nat} {t : Turn} (h : bdQ t.Request_) {self target : Ref} {method : ByteArray} {args : List Value} (ha : args.length ≤ 1000) (hv : ∀ v ∈ args, bdV v) : turns_Nested N t self target method args = some (nestB t self target method args) := by
  obtain ⟨h1, h2, h3, h4⟩ := h
  have hJ4 : turns_Nested_J4 t N self args target method = some (if t.Request_.Path.length = 8 ∨ t.Calls = 1099511627776 then (zQ, 5)
    else (Request.mk t.Request_.Client t.Request_.Seq (t.Request_.Path ++ [t.Calls]) target method args (t.Request_.Chain ++ [self]) t.Request_.Txn, 0)) := by
    have e8 : (((t.Request_.Path.length : Nat) : Int) = 8) = (t.Request_.Path.length = 8) := by apply propext; omega
    simp only [turns_Nested_J4, turns_Nested_J3, turns_Nested_J2, cloneRequest_eq ⟨h1, h2, h3, h4⟩, Option.bind_some, e8, cloneValues_eq ha hv]
    rw [apx_of (by simp only [List.length_cons, List.length_nil]; omega), apx_of (by simp only [List.length_cons, List.length_nil]; omega)]
    by_cases c1 : t.Request_.Path.length = 8
    · simp [c1]; rfl
    · by_cases c2 : t.Calls = 1099511627776
      · simp [c1, c2]; rfl
      · simp [c1, c2]
  simp only [turns_Nested, turns_ValidRequest_eq, turns_number_eq, directory_ValidRef_eq, turns_name_eq, turns_validArgs_eq, Option.bind_some, turns_Nested_J1, hJ4, nestB]
  cases reqB t.Request_ <;> cases numB t.Calls <;> cases vrefB self <;> cases vrefB target <;> cases nameB method <;> cases argsB args <;> first | rfl | (simp; done) | (simp; rfl) | (simp; exact ⟨rfl, rfl⟩) | (simp; exact ⟨rfl, rfl, rfl⟩)
theorem ref24_Nested_eq {N : Nat} {t : Turn} (h : bdQ t.Request_) {self target : Ref} {method : ByteArray} {args : List Value} : ref24_Nested N t self target method args = some (nestB t self target method args) := by
  obtain ⟨h1, h2, h3, h4⟩ := h
  have hJ4 : reqB t.Request_ = true → ref24_Nested_J4 t self target method args = some (if t.Request_.Path.length = 8 ∨ t.Calls = 1099511627776 then (zQ, 5)
    else (Request.mk t.Request_.Client t.Request_.Seq (t.Request_.Path ++ [t.Calls]) target method args (t.Request_.Chain ++ [self]) t.Request_.Txn, 0)) := by
    intro hr
    have hl := reqB_len hr
    have e8 : (8 ≤ ((t.Request_.Path.length : Nat) : Int)) = (t.Request_.Path.length = 8) := by apply propext; omega
    simp only [ref24_Nested_J4, ref24_Nested_J3, ref24_Nested_J2, Option.bind_some, e8]
    rw [apn_of (by omega), apx_of (by simp only [List.length_cons, List.length_nil]; omega), apn_of (by omega), apx_of (by simp only [List.length_cons, List.length_nil]; omega)]
    by_cases c1 : t.Request_.Path.length = 8
    · simp [c1]; rfl
    · by_cases c2 : t.Calls = 1099511627776
      · simp [c1, c2]; rfl
      · simp [c1, c2]
  have en : numB t.Calls = (!decide (t.Calls < 0) && !decide (1099511627776 < t.Calls)) := by
    rw [bool_eqB]; simp only [numB, ite_someB, some_eqB, ite_eqT, if_true, if_false, Bool.false_eq_true, Bool.and_eq_true, Bool.or_eq_true, Bool.not_eq_true', decide_eq_true_eq, decide_eq_false_iff_not, Bool.and_false, Bool.and_true, Bool.or_true, Bool.or_false, Bool.true_or, Bool.false_or, Bool.not_true, Bool.not_false, and_false, false_and, or_false, false_or, Classical.not_not, true_and, and_true, iff_false, false_iff, not_false_eq_true, not_true_eq_false, true_or, or_true ]; omega
  simp only [ref24_Nested, ref24_ValidRequest_eq, ref14_ValidRef_eq, ref24_ValidName_eq, ref24_validArgs_eq, Option.bind_some, ref24_Nested_J1, nestB, en]
  cases hr : reqB t.Request_
  · first | rfl | (simp; done) | (simp; rfl) | (simp; exact ⟨rfl, rfl⟩) | (simp; exact ⟨rfl, rfl, rfl⟩)
  · rw [hJ4 hr]
    by_cases c1 : t.Calls < 0
    · simp [c1]; rfl
    by_cases c2 : 1099511627776 < t.Calls
    · simp [c1, c2]; rfl
    simp only [c1, c2, decide_false, Bool.not_false, if_false, if_true, Bool.true_and]
    cases vrefB self <;> cases vrefB target <;> cases nameB method <;> cases argsB args <;> first | rfl | (simp; done) | (simp; rfl) | (simp; exact ⟨rfl, rfl⟩) | (simp; exact ⟨rfl, rfl, rfl⟩)
theorem nestB_bd {t : Turn} (h : bdQ t.Request_) {self target : Ref} {method : ByteArray} {args : List Value} (ha : args.length ≤ 900) (hv : ∀ v ∈ args, bdV v) : bdQ (nestB t self target method args).1 := by
  have hz : bdQ zQ := by simp [zQ, bdQ]
  unfold nestB
  split
  · rename_i hc
    split
    · exact hz
    · simp only [Bool.and_eq_true] at hc
      have hl := reqB_len hc.1.1.1.1.1
      have hch : t.Request_.Chain.length = t.Request_.Path.length := by
        have := hc.1.1.1.1.1
        simp only [reqB, Bool.and_eq_true, decide_eq_true_eq] at this; exact this.1.1.2
      refine ⟨?_, ?_, ?_, hv⟩ <;> simp only [List.length_append, List.length_cons, List.length_nil] <;> omega
  · exact hz
def suspendB (a : Actor) (target : Ref) (method : ByteArray) (args : List Value) : Actor × Int :=
  if (actB a && vrefB target && nameB method && argsB args) = true then
    if ((topB a).2 && reqE (topB a).1.Call zQ) = true then
      let n := nestB (topB a).1 a.Self target method args
      if n.2 = 0 then chgB a (a.Stack.dropLast ++ [Turn.mk (topB a).1.Request_ (IntKind.i64.wrap ((topB a).1.Calls + 1)) n.1 (topB a).1.Started (topB a).1.Done (topB a).1.Reply_]) else (zA, n.2)
    else (zA, 6)
  else (zA, 1)
theorem turns_Suspend_eq {N : Nat} {a : Actor} (h : bdA a) {target : Ref} {method : ByteArray} {args : List Value} (ha : args.length ≤ 900) (hv : ∀ v ∈ args, bdV v) : turns_Suspend N a target method args = some (suspendB a target method args) := by
  simp only [turns_Suspend, turns_Valid_eq h, directory_ValidRef_eq, turns_name_eq, turns_validArgs_eq, Option.bind_some, turns_Suspend_J1, suspendB]
  cases hA : actB a
  · first | rfl | (simp; done) | (simp; rfl) | (simp; exact ⟨rfl, rfl⟩) | (simp; exact ⟨rfl, rfl, rfl⟩)
  have hlen := actB_len hA
  have hJ : turns_Suspend_J4 N a target method args = some (if ((topB a).2 && reqE (topB a).1.Call zQ) = true then
      let n := nestB (topB a).1 a.Self target method args
      if n.2 = 0 then chgB a (a.Stack.dropLast ++ [Turn.mk (topB a).1.Request_ (IntKind.i64.wrap ((topB a).1.Calls + 1)) n.1 (topB a).1.Started (topB a).1.Done (topB a).1.Reply_]) else (zA, n.2)
    else (zA, 6)) := by
    have hb := topB_bd h
    simp only [turns_Suspend_J4, turns_Suspend_J3, turns_Suspend_J2, turns_top_eq h, turns_running_eq, Option.bind_some, turns_Nested_eq hb.1 (show args.length ≤ 1000 by omega) hv]
    cases ht : (topB a).2
    · first | rfl | (simp; done) | (simp; rfl) | (simp; exact ⟨rfl, rfl⟩) | (simp; exact ⟨rfl, rfl, rfl⟩)
    cases hz : reqE (topB a).1.Call zQ
    · first | rfl | (simp; done) | (simp; rfl) | (simp; exact ⟨rfl, rfl⟩) | (simp; exact ⟨rfl, rfl, rfl⟩)
    simp only [Bool.not_true, Bool.false_eq_true, if_false, if_true, Bool.true_and]
    split
    · rw [turns_replaced_eq h (topB_some ht) (bdT_mk hb.1 (nestB_bd hb.1 ha hv) hb.2.2) (by omega)]; rfl
    · rfl
  simp only [hJ, if_true, Bool.true_and]
  cases vrefB target <;> cases nameB method <;> cases argsB args <;> first | rfl | (simp; done) | (simp; rfl) | (simp; exact ⟨rfl, rfl⟩) | (simp; exact ⟨rfl, rfl, rfl⟩)
theorem ref24_Suspend_eq {N : Nat} {a : Actor} (h : bdA a) {target : Ref} {method : ByteArray} {args : List Value} : ref24_Suspend N a target method args = some (suspendB a target method args) := by
  simp only [ref24_Suspend, ref24_Valid_eq h, ref14_ValidRef_eq, ref24_ValidName_eq, ref24_validArgs_eq, Option.bind_some, ref24_Suspend_J1, suspendB]
  cases hA : actB a
  · first | rfl | (simp; done) | (simp; rfl) | (simp; exact ⟨rfl, rfl⟩) | (simp; exact ⟨rfl, rfl, rfl⟩)
  have hlen := actB_len hA
  have hJ : ref24_Suspend_J4 N a target method args = some (if ((topB a).2 && reqE (topB a).1.Call zQ) = true then
      let n := nestB (topB a).1 a.Self target method args
      if n.2 = 0 then chgB a (a.Stack.dropLast ++ [Turn.mk (topB a).1.Request_ (IntKind.i64.wrap ((topB a).1.Calls + 1)) n.1 (topB a).1.Started (topB a).1.Done (topB a).1.Reply_]) else (zA, n.2)
    else (zA, 6)) := by
    have hb := topB_bd h
    simp only [ref24_Suspend_J4, ref24_Suspend_J3, ref24_Suspend_J2, ref24_top_eq h, ref24_running_eq, Option.bind_some, ref24_Nested_eq hb.1]
    cases ht : (topB a).2
    · first | rfl | (simp; done) | (simp; rfl) | (simp; exact ⟨rfl, rfl⟩) | (simp; exact ⟨rfl, rfl, rfl⟩)
    cases hz : reqE (topB a).1.Call zQ
    · first | rfl | (simp; done) | (simp; rfl) | (simp; exact ⟨rfl, rfl⟩) | (simp; exact ⟨rfl, rfl, rfl⟩)
    simp only [Bool.not_true, Bool.false_eq_true, if_false, if_true, Bool.true_and]
    split
    · rw [ref24_with_eq (topB_some ht) (by omega)]; rfl
    · rfl
  simp only [hJ, if_true, Bool.true_and]
  cases vrefB target <;> cases nameB method <;> cases argsB args <;> first | rfl | (simp; done) | (simp; rfl) | (simp; exact ⟨rfl, rfl⟩) | (simp; exact ⟨rfl, rfl, rfl⟩)
def startB (a : Actor) (c : ByteArray) (s : Int) (p : List Int) : Actor × Int :=
  if actB a = true then
    let t := (topB a).1
    if ((topB a).2 && !reqE t.Call zQ && sidB t.Call c s p) = true then
      if t.Started = true then (zA, 7) else chgB a (a.Stack.dropLast ++ [Turn.mk t.Request_ t.Calls t.Call true t.Done t.Reply_])
    else (zA, 6)
  else (zA, 1)
theorem turns_StartCall_eq {N : Nat} {a : Actor} (h : bdA a) {c : ByteArray} {s : Int} {p : List Int} : turns_StartCall N a c s p = some (startB a c s p) := by
  have hb := topB_bd h
  simp only [turns_StartCall, turns_Valid_eq h, turns_suspended_eq h, turns_SameID_eq, Option.bind_some, turns_StartCall_J1, turns_StartCall_J2, startB, suspB]
  cases hA : actB a
  · first | rfl | (simp; done) | (simp; rfl) | (simp; exact ⟨rfl, rfl⟩) | (simp; exact ⟨rfl, rfl, rfl⟩)
  have hlen := actB_len hA
  cases ht : (topB a).2
  · first | rfl | (simp; done) | (simp; rfl) | (simp; exact ⟨rfl, rfl⟩) | (simp; exact ⟨rfl, rfl, rfl⟩)
  rw [turns_replaced_eq h (topB_some ht) (bdT_mk hb.1 hb.2.1 hb.2.2) (by omega)]
  cases reqE (topB a).1.Call zQ <;> cases sidB (topB a).1.Call c s p <;> cases (topB a).1.Started <;> first | rfl | (simp; done) | (simp; rfl) | (simp; exact ⟨rfl, rfl⟩) | (simp; exact ⟨rfl, rfl, rfl⟩)
theorem ref24_StartCall_eq {N : Nat} {a : Actor} (h : bdA a) {c : ByteArray} {s : Int} {p : List Int} : ref24_StartCall N a c s p = some (startB a c s p) := by
  have hb := topB_bd h
  simp only [ref24_StartCall, ref24_Valid_eq h, ref24_top_eq h, ref24_running_eq, ref24_SameID_eq, Option.bind_some, ref24_StartCall_J1, ref24_StartCall_J2, startB]
  cases hA : actB a
  · first | rfl | (simp; done) | (simp; rfl) | (simp; exact ⟨rfl, rfl⟩) | (simp; exact ⟨rfl, rfl, rfl⟩)
  have hlen := actB_len hA
  cases ht : (topB a).2
  · first | rfl | (simp; done) | (simp; rfl) | (simp; exact ⟨rfl, rfl⟩) | (simp; exact ⟨rfl, rfl, rfl⟩)
  rw [ref24_with_eq (topB_some ht) (by omega)]
  cases reqE (topB a).1.Call zQ <;> cases sidB (topB a).1.Call c s p <;> cases (topB a).1.Started <;> first | rfl | (simp; done) | (simp; rfl) | (simp; exact ⟨rfl, rfl⟩) | (simp; exact ⟨rfl, rfl, rfl⟩)
def answerB (a : Actor) (r : Reply) : Actor × Int :=
  if (actB a && repB r) = true then
    let t := (topB a).1
    if ((topB a).2 && !reqE t.Call zQ && sidB t.Call r.Client r.Seq r.Path) = true then
      if (t.Started && !t.Done) = true then chgB a (a.Stack.dropLast ++ [Turn.mk t.Request_ t.Calls t.Call t.Started true r]) else (zA, 8)
    else (zA, 6)
  else (zA, 1)
theorem turns_Answer_eq {N : Nat} {a : Actor} (h : bdA a) {r : Reply} (hr : bdP r) : turns_Answer N a r = some (answerB a r) := by
  have hb := topB_bd h
  simp only [turns_Answer, turns_Valid_eq h, turns_ValidReply_eq, turns_suspended_eq h, turns_SameID_eq, Option.bind_some, turns_Answer_J1, turns_Answer_J5, turns_Answer_J4, turns_Answer_J3, turns_Answer_J2, answerB, suspB]
  cases hA : actB a
  · first | rfl | (simp; done) | (simp; rfl) | (simp; exact ⟨rfl, rfl⟩) | (simp; exact ⟨rfl, rfl, rfl⟩)
  have hlen := actB_len hA
  cases ht : (topB a).2
  · cases repB r <;> first | rfl | (simp; done) | (simp; rfl) | (simp; exact ⟨rfl, rfl⟩) | (simp; exact ⟨rfl, rfl, rfl⟩)
  rw [turns_replaced_eq h (topB_some ht) (bdT_mk hb.1 hb.2.1 hr) (by omega)]
  cases repB r <;> cases reqE (topB a).1.Call zQ <;> cases sidB (topB a).1.Call r.Client r.Seq r.Path <;> cases (topB a).1.Started <;> cases (topB a).1.Done <;> first | rfl | (simp; done) | (simp; rfl) | (simp; exact ⟨rfl, rfl⟩) | (simp; exact ⟨rfl, rfl, rfl⟩)
theorem ref24_Answer_eq {N : Nat} {a : Actor} (h : bdA a) {r : Reply} : ref24_Answer N a r = some (answerB a r) := by
  have hb := topB_bd h
  simp only [ref24_Answer, ref24_Valid_eq h, ref24_ValidReply_eq, ref24_top_eq h, ref24_running_eq, ref24_SameID_eq, Option.bind_some, ref24_Answer_J1, ref24_Answer_J6, ref24_Answer_J5, ref24_Answer_J4, ref24_Answer_J3, ref24_Answer_J2, answerB]
  cases hA : actB a
  · first | rfl | (simp; done) | (simp; rfl) | (simp; exact ⟨rfl, rfl⟩) | (simp; exact ⟨rfl, rfl, rfl⟩)
  have hlen := actB_len hA
  cases ht : (topB a).2
  · cases repB r <;> first | rfl | (simp; done) | (simp; rfl) | (simp; exact ⟨rfl, rfl⟩) | (simp; exact ⟨rfl, rfl, rfl⟩)
  rw [ref24_with_eq (topB_some ht) (by omega)]
  cases repB r <;> cases reqE (topB a).1.Call zQ <;> cases sidB (topB a).1.Call r.Client r.Seq r.Path <;> cases (topB a).1.Started <;> cases (topB a).1.Done <;> first | rfl | (simp; done) | (simp; rfl) | (simp; exact ⟨rfl, rfl⟩) | (simp; exact ⟨rfl, rfl, rfl⟩)
def againT (t : Turn) : Turn := Turn.mk t.Request_ t.Calls zQ false false zP
def resumeB (a : Actor) : Actor × Reply × Int :=
  if actB a = true then
    let t := (topB a).1
    if ((topB a).2 && !reqE t.Call zQ) = true then
      if t.Done = true then
        (if a.Index = 1099511627776 then (zA, zP, 5) else ((chgB a (a.Stack.dropLast ++ [againT t])).1, t.Reply_, 0))
      else (zA, zP, 12)
    else (zA, zP, 6)
  else (zA, zP, 1)
theorem bd_again {t : Turn} (h : bdT t) : bdT (againT t) := by simp [againT, bdT, zQ, zP, bdQ, bdP, bdV]; exact h.1
theorem turns_Resume_eq {N : Nat} {a : Actor} (h : bdA a) : turns_Resume N a = some (resumeB a) := by
  have hb := topB_bd h
  simp only [turns_Resume, turns_Valid_eq h, turns_suspended_eq h, Option.bind_some, resumeB, suspB]
  cases hA : actB a
  · first | rfl | (simp; done) | (simp; rfl) | (simp; exact ⟨rfl, rfl⟩) | (simp; exact ⟨rfl, rfl, rfl⟩)
  have hlen := actB_len hA
  cases ht : (topB a).2
  · first | rfl | (simp; done) | (simp; rfl) | (simp; exact ⟨rfl, rfl⟩) | (simp; exact ⟨rfl, rfl, rfl⟩)
  change (if true = true then if (true && !reqE (topB a).1.Call zQ) = true then if (topB a).1.Done = true then (turns_replaced N a (againT (topB a).1)).bind _ else _ else _ else _) = _
  rw [turns_replaced_eq h (topB_some ht) (bd_again hb) (by omega), Option.bind_some]
  simp only [chgB, cloneReply_eq hb.2.2, Option.bind_some]
  by_cases hi : a.Index = 1099511627776
  · cases reqE (topB a).1.Call zQ <;> cases (topB a).1.Done <;> first | (simp [hi]; done) | (simp [hi]; rfl) | (simp [hi]; exact ⟨rfl, rfl⟩) | (simp [hi]; exact ⟨rfl, rfl, rfl⟩)
  · cases reqE (topB a).1.Call zQ <;> cases (topB a).1.Done <;> first | (simp [hi]; done) | (simp [hi]; rfl) | (simp [hi]; exact ⟨rfl, rfl⟩) | (simp [hi]; exact ⟨rfl, rfl, rfl⟩)
theorem ref24_Resume_eq {N : Nat} {a : Actor} (h : bdA a) : ref24_Resume N a = some (resumeB a) := by
  have hb := topB_bd h
  simp only [ref24_Resume, ref24_Valid_eq h, ref24_top_eq h, ref24_running_eq, Option.bind_some, ref24_Resume_J1, ref24_Resume_J2, resumeB]
  cases hA : actB a
  · first | rfl | (simp; done) | (simp; rfl) | (simp; exact ⟨rfl, rfl⟩) | (simp; exact ⟨rfl, rfl, rfl⟩)
  have hlen := actB_len hA
  cases ht : (topB a).2
  · first | rfl | (simp; done) | (simp; rfl) | (simp; exact ⟨rfl, rfl⟩) | (simp; exact ⟨rfl, rfl, rfl⟩)
  change (if true = true then if true = true then if reqE (topB a).1.Call zQ = true then _ else if (topB a).1.Done = true then (ref24_with N a (againT (topB a).1)).bind _ else _ else _ else _) = _
  rw [ref24_with_eq (topB_some ht) (by omega), Option.bind_some]
  simp only [chgB]
  by_cases hi : a.Index = 1099511627776
  · cases reqE (topB a).1.Call zQ <;> cases (topB a).1.Done <;> first | (simp [hi]; done) | (simp [hi]; rfl) | (simp [hi]; exact ⟨rfl, rfl⟩) | (simp [hi]; exact ⟨rfl, rfl, rfl⟩)
  · cases reqE (topB a).1.Call zQ <;> cases (topB a).1.Done <;> first | (simp [hi]; done) | (simp [hi]; rfl) | (simp [hi]; exact ⟨rfl, rfl⟩) | (simp [hi]; exact ⟨rfl, rfl, rfl⟩)
end Go.Proofs.Ytmgpaicldmgckaa

set_option linter.unusedSimpArgs false
set_option linter.unusedVariables false
namespace Go.Proofs.Ytmgpaicldmgckaa
open Go Go.Proofs Go.Abs
theorem awake24 : law24_awake 3 = some true := by decide +kernel
end Go.Proofs.Ytmgpaicldmgckaa

set_option linter.unusedSimpArgs false
set_option linter.unusedVariables false
namespace Go.Proofs.Ytmgpaicldmgckaa
open Go Go.Proofs Go.Abs
theorem value24 (N : Nat) (v : Value) : ∃ b, law24_value N v = some b ∧ (b = true → bdV v) := by
  have h := all_loop (L := law24_value_L1 (law24_value_J1 v)) (fun s => !decide (100 < ((s.size : Nat) : Int))) (law24_value_J1 v) (some false) (fun _ => rfl) (fun x xs w => by
    simp only [law24_value_L1]
    by_cases h : 100 < ((x.size : Nat) : Int) <;> simp [h]) v.L 0
  rw [law24_value, h]
  split
  · simp only [law24_value_J1]
    split
    · split
      · refine ⟨_, rfl, fun hb => ?_⟩
        rw [decide_eq_true_eq] at hb
        constructor <;> omega
      · exact ⟨false, rfl, by simp⟩
    · exact ⟨false, rfl, by simp⟩
  · exact ⟨false, rfl, by simp⟩
def smallV (v : Value) : Bool := (law24_value 3 v).getD false
theorem smallV_eq (v : Value) : law24_value 3 v = some (smallV v) := by
  obtain ⟨b, hb, _⟩ := value24 3 v; rw [smallV, hb]; rfl
theorem smallV_bd {v : Value} (h : smallV v = true) : bdV v := by
  obtain ⟨b, hb, hh⟩ := value24 3 v
  rw [smallV, hb] at h; exact hh h
theorem request24 (r : Request) : ∃ b, law24_request 3 r = some b ∧ (b = true → bdQ r ∧ r.Args.length ≤ 20 ∧ r.Path.length ≤ 30) := by
  have h := all_loop (L := law24_request_L1 (law24_request_J3 r) 3) smallV (law24_request_J3 r) (some false) (fun _ => rfl) (fun x xs w => by
    simp only [law24_request_L1, smallV_eq, Option.bind_some]) r.Args 0
  have h2 := all_loop (L := law24_request_L2 (law24_request_J2 r)) (fun s => !decide (100 < ((s.Type_.size : Nat) : Int)) && !decide (100 < ((s.Key.size : Nat) : Int))) (law24_request_J2 r) (some false) (fun _ => rfl) (fun x xs w => by
    simp only [law24_request_L2, law24_request_J1]
    by_cases h : 100 < ((x.Type_.size : Nat) : Int) <;> by_cases h' : 100 < ((x.Key.size : Nat) : Int) <;> simp [h, h']) r.Chain 0
  rw [law24_request, h, law24_request_J3, h2]
  have no : ∃ b, some false = some b ∧ (b = true → bdQ r ∧ r.Args.length ≤ 20 ∧ r.Path.length ≤ 30) := ⟨false, rfl, by simp⟩
  split
  · rename_i ha
    split
    · simp only [law24_request_J2]
      split
      · split
        · split
          · split
            · split
              · split
                · refine ⟨_, rfl, fun hb => ?_⟩
                  rw [decide_eq_true_eq] at hb
                  rw [List.all_eq_true] at ha
                  exact ⟨⟨by omega, by omega, by omega, fun v hv => smallV_bd (ha v hv)⟩, by omega, by omega⟩
                · exact no
              · exact no
            · exact no
          · exact no
        · exact no
      · exact no
    · exact no
  · exact no
def smallQ (r : Request) : Bool := (law24_request 3 r).getD false
theorem smallQ_eq (r : Request) : law24_request 3 r = some (smallQ r) := by
  obtain ⟨b, hb, _⟩ := request24 r; rw [smallQ, hb]; rfl
theorem smallQ_bd {r : Request} (h : smallQ r = true) : bdQ r ∧ r.Args.length ≤ 20 ∧ r.Path.length ≤ 30 := by
  obtain ⟨b, hb, hh⟩ := request24 r
  rw [smallQ, hb] at h; exact hh h
theorem reply24 (r : Reply) : ∃ b, law24_reply 3 r = some b ∧ (b = true → bdP r) := by
  have no : ∃ b, some false = some b ∧ (b = true → bdP r) := ⟨false, rfl, by simp⟩
  simp only [law24_reply, smallV_eq, Option.bind_some]
  split
  · split
    · exact ⟨_, rfl, fun hb => ⟨by omega, smallV_bd hb⟩⟩
    · exact no
  · exact no
def smallP (r : Reply) : Bool := (law24_reply 3 r).getD false
theorem smallP_eq (r : Reply) : law24_reply 3 r = some (smallP r) := by
  obtain ⟨b, hb, _⟩ := reply24 r; rw [smallP, hb]; rfl
theorem smallP_bd {r : Reply} (h : smallP r = true) : bdP r := by
  obtain ⟨b, hb, hh⟩ := reply24 r
  rw [smallP, hb] at h; exact hh h
theorem actor24 (a : Actor) : ∃ b, law24_Small 3 a = some b ∧ (b = true → bdA a) := by
  have h := all_loop (L := law24_Small_L1 (law24_Small_J2 a) 3) (fun t => smallQ t.Request_ && smallQ t.Call && smallP t.Reply_) (law24_Small_J2 a) (some false) (fun _ => rfl) (fun x xs w => by
    simp only [law24_Small_L1, law24_Small_J1, smallQ_eq, smallP_eq, Option.bind_some]
    cases smallQ x.Request_ <;> cases smallQ x.Call <;> cases smallP x.Reply_ <;> simp) a.Stack 0
  have no : ∃ b, some false = some b ∧ (b = true → bdA a) := ⟨false, rfl, by simp⟩
  rw [law24_Small, h]
  split
  · rename_i ha
    simp only [law24_Small_J2]
    split
    · split
      · refine ⟨_, rfl, fun hb => ⟨by omega, fun t ht => ?_⟩⟩
        have := List.all_eq_true.1 ha t ht
        simp only [Bool.and_eq_true] at this
        exact ⟨(smallQ_bd this.1.1).1, (smallQ_bd this.1.2).1, smallP_bd this.2⟩
      · exact no
    · exact no
  · exact no
def smallA (r : Actor) : Bool := (law24_Small 3 r).getD false
theorem smallA_eq (r : Actor) : law24_Small 3 r = some (smallA r) := by
  obtain ⟨b, hb, _⟩ := actor24 r; rw [smallA, hb]; rfl
theorem smallA_bd {r : Actor} (h : smallA r = true) : bdA r := by
  obtain ⟨b, hb, hh⟩ := actor24 r
  rw [smallA, hb] at h; exact hh h
theorem plain_TurnsCalls (a : Actor) (t : Turn) (target : Ref) (m : ByteArray) (args : List Value) (c : ByteArray) (q : Int) (l : List Int) (p : Reply) : law24_TurnsCalls 3 a t target m args c q l p = some true := by
  simp only [law24_TurnsCalls, awake24, smallA_eq, smallQ_eq, smallP_eq, Option.bind_some, if_true, law24_TurnsCalls_J1]
  by_cases ha : smallA a = true
  · have hb := smallA_bd ha
    by_cases h1 : smallA (Actor.mk (Ref.mk (⟨#[]⟩) (⟨#[]⟩)) 0 [t]) = true
    · have hbt : bdT t := (smallA_bd h1).2 t (by simp)
      by_cases h2 : smallQ (Request.mk (⟨#[]⟩) 0 [] target m args [] 0) = true
      · obtain ⟨hq, hq2, _⟩ := smallQ_bd h2
        have hq4 : ∀ v ∈ args, bdV v := hq.2.2.2
        have hq2' : args.length ≤ 20 := hq2
        by_cases h3 : smallP p = true
        · have hp := smallP_bd h3
          have hJ : law24_TurnsCalls_J2 3 a target m args c q l p t = some true := by
            simp only [law24_TurnsCalls_J2, turns_Suspend_eq hb (show args.length ≤ 900 by omega) hq4, ref24_Suspend_eq hb, turns_StartCall_eq hb, ref24_StartCall_eq hb, turns_Answer_eq hb hp, ref24_Answer_eq hb, turns_Resume_eq hb, ref24_Resume_eq hb, turns_Nested_eq hbt.1 (show args.length ≤ 1000 by omega) hq4, ref24_Nested_eq hbt.1, Option.bind_some, if_true, same_refl, sameQ_refl, sameP_refl, decide_true]
          simp only [hJ, ha, h1, h2, h3, if_true]
          by_cases c1 : 100 < ((c.size : Nat) : Int) <;> by_cases c2 : 30 < ((l.length : Nat) : Int) <;> simp [c1, c2]
        · by_cases c1 : 100 < ((c.size : Nat) : Int) <;> by_cases c2 : 30 < ((l.length : Nat) : Int) <;> simp [ha, h1, h2, h3, c1, c2]
      · simp [ha, h1, h2]
    · simp [ha, h1]
  · simp [ha]
end Go.Proofs.Ytmgpaicldmgckaa
