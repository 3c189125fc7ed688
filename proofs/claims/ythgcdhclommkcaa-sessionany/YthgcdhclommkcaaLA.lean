/- Plain facts on the models; no program in sight. -/
import Derived.Test.YthgcdhclommkcaaM
set_option linter.unusedSimpArgs false
set_option linter.unusedVariables false
namespace Go.Proofs.Ythgcdhclommkcaa
open Go Go.Proofs Go.Abs
theorem w64' {n : Int} (h1 : -9223372036854775808 ≤ n) (h2 : n ≤ 9223372036854775807) : IntKind.i64.wrap n = n := wrap64_in h1 h2
theorem sEq_iff' {a b : ByteArray} : sEq a b = true ↔ a = b := by
  unfold sEq
  rw [beq_iff_eq, ByteArray.toList_eq, ByteArray.toList_eq]
  obtain ⟨⟨x⟩⟩ := a
  obtain ⟨⟨y⟩⟩ := b
  simp
theorem sEq_refl (a : ByteArray) : sEq a a = true := sEq_iff'.2 rfl
theorem ite_someB {c : Prop} [Decidable c] {a b : Bool} : (if c then some a else some b) = some (if c then a else b) := by split <;> rfl
theorem ite_eqT {c : Prop} [Decidable c] {a b : Bool} : ((if c then a else b) = true) ↔ ((c ∧ a = true) ∨ (¬ c ∧ b = true)) := by split <;> simp [*]
theorem some_eqB {a b : Bool} : (some a = some b) ↔ (a = true ↔ b = true) := by cases a <;> cases b <;> simp
theorem bool_eqB {a b : Bool} : (a = b) ↔ (a = true ↔ b = true) := by cases a <;> cases b <;> simp
theorem gx_of {α β : Type} {l : List α} {i : Nat} {x : α} {k : α → Option β} (h : l[i]? = some x) : gx l (i : Int) k = k x := gx_nat h
def all2 {α : Type} (e : α → α → Bool) : List α → List α → Bool
  | [], _ => true
  | x :: xs, y :: ys => e x y && all2 e xs ys
  | _ :: _, [] => false
theorem all2_iff {α : Type} {e : α → α → Bool} (he : ∀ x y, e x y = true ↔ x = y) : ∀ {a b : List α}, a.length = b.length → (all2 e a b = true ↔ a = b)
  | [], [], _ => by simp [all2]
  | [], _ :: _, h => by simp at h
  | _ :: _, [], h => by simp at h
  | x :: a, y :: b, h => by
    simp only [all2, Bool.and_eq_true, he, List.cons.injEq]
    rw [all2_iff he (by simpa using h)]
theorem eq_loop {α : Type} {L : List α → Nat → Unit → Option Bool} (a1 : List α) (e : α → α → Bool) (h0 : ∀ v, L [] v () = some true)
    (h1 : ∀ x xs v, L (x :: xs) v () = gx a1 (v : Int) fun y => if e x y = true then L xs (v + 1) () else some false) :
    ∀ (xs : List α) (v : Nat), v + xs.length ≤ a1.length → L xs v () = some (all2 e xs (a1.drop v))
  | [], v, _ => by rw [h0]; rfl
  | x :: xs, v, h => by
    simp only [List.length_cons] at h
    have hv : v < a1.length := by omega
    rw [h1, gx_of (List.getElem?_eq_getElem hv), List.drop_eq_getElem_cons hv, eq_loop a1 e h0 h1 xs (v + 1) (by omega)]
    simp only [all2]
    cases e x a1[v] <;> simp
def eqL {α : Type} (e : α → α → Bool) (a b : List α) : Bool := decide (a.length = b.length) && all2 e a b
theorem eqL_iff {α : Type} {e : α → α → Bool} (he : ∀ x y, e x y = true ↔ x = y) {a b : List α} : eqL e a b = true ↔ a = b := by
  unfold eqL
  by_cases h : a.length = b.length
  · simp [h, all2_iff he h]
  · have : ¬ a = b := fun e => h (by rw [e])
    simp [h, this]
theorem eq_fun {α : Type} {L : List α → Nat → Unit → Option Bool} (a0 a1 : List α) (e : α → α → Bool) (h0 : ∀ v, L [] v () = some true)
    (h1 : ∀ x xs v, L (x :: xs) v () = gx a1 (v : Int) fun y => if e x y = true then L xs (v + 1) () else some false) :
    (if ((a0.length : Nat) : Int) = ((a1.length : Nat) : Int) then L a0 0 () else some false) = some (eqL e a0 a1) := by
  unfold eqL
  by_cases h : a0.length = a1.length
  · rw [if_pos (by omega), eq_loop a1 e h0 h1 a0 0 (by omega), List.drop_zero]
    simp [h]
  · rw [if_neg (by omega)]
    simp [h]
def findP {α : Type} (p : α → Bool) : List α → Nat → Int
  | [], _ => -1
  | x :: xs, v => if p x = true then (v : Int) else findP p xs (v + 1)
theorem find_loop {α : Type} {L : List α → Nat → Unit → Option Int} (f : α → Option Bool) (p : α → Bool) (h0 : ∀ v, L [] v () = some (-1))
    (h1 : ∀ x xs v, L (x :: xs) v () = (f x).bind fun r => if r = true then some ((v : Nat) : Int) else L xs (v + 1) ()) :
    ∀ (xs : List α) (v : Nat), (∀ x ∈ xs, f x = some (p x)) → L xs v () = some (findP p xs v)
  | [], v, _ => by rw [h0]; rfl
  | x :: xs, v, h => by
    rw [h1, h x (by simp), Option.bind_some, find_loop f p h0 h1 xs (v + 1) (fun y hy => h y (by simp [hy]))]
    simp only [findP]
    cases p x <;> rfl
theorem findP_any {α : Type} (p : α → Bool) : ∀ (xs : List α) (v : Nat), decide (0 ≤ findP p xs v) = xs.any p
  | [], v => rfl
  | x :: xs, v => by
    simp only [findP, List.any_cons]
    by_cases h : p x = true
    · have : (0 : Int) ≤ (v : Int) := by omega
      simp [h, this]
    · simpa [h] using findP_any p xs (v + 1)
theorem all_loop {α ρ : Type} {L : List α → Nat → Unit → Option ρ} (p : α → Bool) (k no : Option ρ) (h0 : ∀ v, L [] v () = k)
    (h1 : ∀ x xs v, L (x :: xs) v () = if p x = true then L xs (v + 1) () else no) :
    ∀ (xs : List α) (v : Nat), L xs v () = if xs.all p = true then k else no
  | [], v => by rw [h0]; rfl
  | x :: xs, v => by
    rw [h1, all_loop p k no h0 h1 xs (v + 1)]
    simp only [List.all_cons]
    by_cases h : p x = true <;> simp [h]
theorem set_same {α : Type} {l : List α} {i : Nat} {x : α} (h : l[i]? = some x) : l.set i x = l := by
  apply List.ext_getElem?
  intro j
  rw [List.getElem?_set]
  split
  · rename_i e
    subst e
    have := (List.getElem?_eq_some_iff.1 h).1
    rw [if_pos this, h]
  · rfl
theorem clone_loop {α ρ : Type} {L : Nat → Nat → List α → Option ρ} (P : α → Prop)
    (h1 : ∀ m v l x, l[v]? = some x → P x → L (m + 1) v l = L m (v + 1) l) :
    ∀ (m v : Nat) (l : List α), v + m ≤ l.length → (∀ x ∈ l, P x) → L m v l = L 0 (v + m) l
  | 0, v, l, _, _ => rfl
  | m + 1, v, l, h, hp => by
    have hv : v < l.length := by omega
    rw [h1 m v l l[v] (List.getElem?_eq_getElem hv) (hp _ (List.getElem_mem hv)), clone_loop P h1 m (v + 1) l (by omega) hp]
    congr 1; omega
theorem apn_of {α β : Type} {b : Nat} {l : List α} {k : Option β} (h : l.length * (b + 1) ≤ 140737488355328) : apn b l k = k := by simp only [apn]; rw [if_pos h]
theorem apx_of {α β : Type} {b : Nat} {l l' : List α} {k : List α → Option β} (h : (l.length + l'.length) * (b + 1) ≤ 140737488355328) : apx b l l' k = k (l ++ l') := by simp only [apx]; rw [if_pos h]
end Go.Proofs.Ythgcdhclommkcaa

set_option linter.unusedSimpArgs false
set_option linter.unusedVariables false
namespace Go.Proofs.Ythgcdhclommkcaa
open Go Go.Proofs Go.Abs
def strsB (l : List ByteArray) : Bool := l.all fun s => decide (s.size ≤ 64)
theorem wire_VV_L1 : ∀ (xs : List ByteArray) (v : Nat), wire_ValidValue_L1 xs v () = some (strsB xs)
  | [], v => rfl
  | x :: xs, v => by
    have ih := wire_VV_L1 xs (v + 1)
    simp only [wire_ValidValue_L1, ih, strsB, List.all_cons]
    grind
theorem ref1_VV_L1 : ∀ (xs : List ByteArray) (v : Nat), ref1_ValidValue_L1 xs v () = some (strsB xs)
  | [], v => rfl
  | x :: xs, v => by
    have ih := ref1_VV_L1 xs (v + 1)
    simp only [ref1_ValidValue_L1, ih, strsB, List.all_cons]
    grind
def valueB (v : Value) : Bool :=
  decide (0 ≤ v.Kind) && decide (v.Kind ≤ 5) &&
  decide (v.N = 0 ∨ v.Kind = 1 ∨ (v.Kind = 2 ∧ v.N = 1)) &&
  (sEq v.S ⟨#[]⟩ || decide (v.Kind = 3)) && (decide (v.I.length = 0) || decide (v.Kind = 4)) && (decide (v.L.length = 0) || decide (v.Kind = 5)) &&
  decide (v.S.size ≤ 64) && decide (v.I.length ≤ 16) && decide (v.L.length ≤ 16) && strsB v.L
theorem wire_ValidValue_eq (N : Nat) (v : Value) : wire_ValidValue N v = some (valueB v) := by
  simp only [wire_ValidValue, wire_ValidValue_J1, wire_ValidValue_J2, wire_ValidValue_J3, wire_ValidValue_J4, wire_ValidValue_J5, wire_ValidValue_J6, wire_ValidValue_J7, wire_ValidValue_J8, wire_ValidValue_J9, wire_VV_L1, valueB]
  generalize strsB v.L = q
  generalize sEq v.S ⟨#[]⟩ = z
  cases z <;> cases q <;> simp only [ite_someB, some_eqB, ite_eqT, if_true, if_false, Bool.false_eq_true, Bool.and_eq_true, Bool.or_eq_true, Bool.not_eq_true', decide_eq_true_eq, decide_eq_false_iff_not, Bool.and_false, Bool.and_true, Bool.or_true, Bool.or_false, Bool.true_or, Bool.false_or, Bool.not_true, Bool.not_false, and_false, false_and, or_false, false_or, Classical.not_not, true_and, and_true, iff_false, false_iff, not_false_eq_true, not_true_eq_false, true_or, or_true ] <;> omega
theorem ref1_ValidValue_eq (N : Nat) (v : Value) : ref1_ValidValue N v = some (valueB v) := by
  simp only [ref1_ValidValue, ref1_ValidValue_J1, ref1_ValidValue_J2, ref1_ValidValue_J3, ref1_ValidValue_J4, ref1_VV_L1, valueB]
  generalize strsB v.L = q
  generalize sEq v.S ⟨#[]⟩ = z
  cases z <;> cases q <;> simp only [ite_someB, some_eqB, ite_eqT, if_true, if_false, Bool.false_eq_true, Bool.and_eq_true, Bool.or_eq_true, Bool.not_eq_true', decide_eq_true_eq, decide_eq_false_iff_not, Bool.and_false, Bool.and_true, Bool.or_true, Bool.or_false, Bool.true_or, Bool.false_or, Bool.not_true, Bool.not_false, and_false, false_and, or_false, false_or, Classical.not_not, true_and, and_true, iff_false, false_iff, not_false_eq_true, not_true_eq_false, true_or, or_true ] <;> omega
def intsE (a b : List Int) : Bool := eqL (fun x y => decide (x = y)) a b
def strsE (a b : List ByteArray) : Bool := eqL sEq a b
def refE (a b : Ref) : Bool := sEq a.Type_ b.Type_ && sEq a.Key b.Key
theorem intsE_iff {a b : List Int} : intsE a b = true ↔ a = b := eqL_iff (by simp)
theorem strsE_iff {a b : List ByteArray} : strsE a b = true ↔ a = b := eqL_iff (fun _ _ => sEq_iff')
theorem refE_iff (a b : Ref) : refE a b = true ↔ a = b := by
  obtain ⟨a1, a2⟩ := a
  obtain ⟨b1, b2⟩ := b
  simp [refE, sEq_iff']
theorem ref1_SameInts_eq (N : Nat) (a b : List Int) : ref1_SameInts N a b = some (intsE a b) :=
  eq_fun (L := ref1_SameInts_L1 b) a b _ (fun _ => rfl) (fun x xs v => by simp [ref1_SameInts_L1])
theorem ref1_SameStrings_eq (N : Nat) (a b : List ByteArray) : ref1_SameStrings N a b = some (strsE a b) :=
  eq_fun (L := ref1_SameStrings_L1 b) a b _ (fun _ => rfl) (fun x xs v => by simp [ref1_SameStrings_L1])
def valE (a b : Value) : Bool := decide (a.Kind = b.Kind) && decide (a.N = b.N) && sEq a.S b.S && intsE a.I b.I && strsE a.L b.L
theorem valE_iff (a b : Value) : valE a b = true ↔ a = b := by
  obtain ⟨a1, a2, a3, a4, a5⟩ := a
  obtain ⟨b1, b2, b3, b4, b5⟩ := b
  simp [valE, sEq_iff', intsE_iff, strsE_iff, and_assoc]
theorem ref1_SameValue_eq (N : Nat) (a b : Value) : ref1_SameValue N a b = some (valE a b) := by
  simp only [ref1_SameValue, ref1_SameInts_eq, ref1_SameStrings_eq, Option.bind_some, valE, ite_someB, some_eqB, ite_eqT, if_true, if_false, Bool.false_eq_true, Bool.and_eq_true, Bool.or_eq_true, Bool.not_eq_true', decide_eq_true_eq, decide_eq_false_iff_not, Bool.and_false, Bool.and_true, Bool.or_true, Bool.or_false, Bool.true_or, Bool.false_or, Bool.not_true, Bool.not_false, and_false, false_and, or_false, false_or, Classical.not_not, true_and, and_true, iff_false, false_iff, not_false_eq_true, not_true_eq_false, true_or, or_true ]
  all_goals grind
def nameB (s : ByteArray) : Bool := decide (1 ≤ s.size) && decide (s.size ≤ 32)
theorem session_validName_eq (N : Nat) (s : ByteArray) : session_validName N s = some (nameB s) := by
  simp only [session_validName, nameB, ite_someB, some_eqB, ite_eqT, if_true, if_false, Bool.false_eq_true, Bool.and_eq_true, Bool.or_eq_true, Bool.not_eq_true', decide_eq_true_eq, decide_eq_false_iff_not, Bool.and_false, Bool.and_true, Bool.or_true, Bool.or_false, Bool.true_or, Bool.false_or, Bool.not_true, Bool.not_false, and_false, false_and, or_false, false_or, Classical.not_not, true_and, and_true, iff_false, false_iff, not_false_eq_true, not_true_eq_false, true_or, or_true ] <;> omega
theorem dedup_name_eq (N : Nat) (s : ByteArray) : dedup_name N s = some (nameB s) := by
  simp only [dedup_name, nameB, ite_someB, some_eqB, ite_eqT, if_true, if_false, Bool.false_eq_true, Bool.and_eq_true, Bool.or_eq_true, Bool.not_eq_true', decide_eq_true_eq, decide_eq_false_iff_not, Bool.and_false, Bool.and_true, Bool.or_true, Bool.or_false, Bool.true_or, Bool.false_or, Bool.not_true, Bool.not_false, and_false, false_and, or_false, false_or, Classical.not_not, true_and, and_true, iff_false, false_iff, not_false_eq_true, not_true_eq_false, true_or, or_true ] <;> omega
theorem ref16_ValidName_eq (N : Nat) (s : ByteArray) : ref16_ValidName N s = some (nameB s) := by
  simp only [ref16_ValidName, nameB, ite_someB, some_eqB, ite_eqT, if_true, if_false, Bool.false_eq_true, Bool.and_eq_true, Bool.or_eq_true, Bool.not_eq_true', decide_eq_true_eq, decide_eq_false_iff_not, Bool.and_false, Bool.and_true, Bool.or_true, Bool.or_false, Bool.true_or, Bool.false_or, Bool.not_true, Bool.not_false, and_false, false_and, or_false, false_or, Classical.not_not, true_and, and_true, iff_false, false_iff, not_false_eq_true, not_true_eq_false, true_or, or_true ] <;> omega
def numB (n : Int) : Bool := decide (0 ≤ n) && decide (n ≤ 1099511627776)
theorem session_validTime_eq (N : Nat) (n : Int) : session_validTime N n = some (numB n) := by
  simp only [session_validTime, numB, ite_someB, some_eqB, ite_eqT, if_true, if_false, Bool.false_eq_true, Bool.and_eq_true, Bool.or_eq_true, Bool.not_eq_true', decide_eq_true_eq, decide_eq_false_iff_not, Bool.and_false, Bool.and_true, Bool.or_true, Bool.or_false, Bool.true_or, Bool.false_or, Bool.not_true, Bool.not_false, and_false, false_and, or_false, false_or, Classical.not_not, true_and, and_true, iff_false, false_iff, not_false_eq_true, not_true_eq_false, true_or, or_true ] <;> omega
def seqB (n : Int) : Bool := decide (1 ≤ n) && decide (n ≤ 1099511627776)
theorem dedup_number_eq (N : Nat) (n : Int) : dedup_number N n = some (seqB n) := by
  simp only [dedup_number, seqB, ite_someB, some_eqB, ite_eqT, if_true, if_false, Bool.false_eq_true, Bool.and_eq_true, Bool.or_eq_true, Bool.not_eq_true', decide_eq_true_eq, decide_eq_false_iff_not, Bool.and_false, Bool.and_true, Bool.or_true, Bool.or_false, Bool.true_or, Bool.false_or, Bool.not_true, Bool.not_false, and_false, false_and, or_false, false_or, Classical.not_not, true_and, and_true, iff_false, false_iff, not_false_eq_true, not_true_eq_false, true_or, or_true ] <;> omega
def vrefB (r : Ref) : Bool := decide (1 ≤ r.Type_.size) && decide (r.Type_.size ≤ 32) && decide (r.Key.size ≤ 32)
theorem ref14_ValidRef_eq (N : Nat) (r : Ref) : ref14_ValidRef N r = some (vrefB r) := by
  simp only [ref14_ValidRef, vrefB, ite_someB, some_eqB, ite_eqT, if_true, if_false, Bool.false_eq_true, Bool.and_eq_true, Bool.or_eq_true, Bool.not_eq_true', decide_eq_true_eq, decide_eq_false_iff_not, Bool.and_false, Bool.and_true, Bool.or_true, Bool.or_false, Bool.true_or, Bool.false_or, Bool.not_true, Bool.not_false, and_false, false_and, or_false, false_or, Classical.not_not, true_and, and_true, iff_false, false_iff, not_false_eq_true, not_true_eq_false, true_or, or_true ] <;> omega
theorem any_not {α : Type} (p : α → Bool) (l : List α) : (l.any fun x => !p x) = !(l.all p) := by
  induction l with
  | nil => rfl
  | cons x l ih => simp [ih]
def argB (v : Value) : Bool := valueB v && !decide (v.Kind = 0)
def callB (c : ActorCall) : Bool := vrefB c.Target && nameB c.Method && decide (c.Args.length ≤ 4) && c.Args.all argB
theorem cf_args (N : Nat) (l : List Value) : slices_ContainsFunc_Value_txn_ValidCall_1 N l = some (!(l.all argB)) := by
  have h := find_loop (L := slices_IndexFunc_Value_txn_ValidCall_1_L1 N) (txn_ValidCall_1 N) (fun v => !argB v) (fun _ => rfl) (fun _ _ _ => rfl) l 0 (fun x _ => by
    simp only [txn_ValidCall_1, wire_ValidValue_eq, Option.bind_some, argB]
    by_cases h : x.Kind = 0 <;> simp [h])
  simp only [slices_ContainsFunc_Value_txn_ValidCall_1, slices_IndexFunc_Value_txn_ValidCall_1, h, Option.bind_some, findP_any, any_not]
theorem txn_ValidCall_eq (N : Nat) (c : ActorCall) : txn_ValidCall N c = some (callB c) := by
  simp only [txn_ValidCall, txn_ValidCall_J1, txn_ValidCall_J2, cf_args, Option.bind_some, Bool.not_not, callB, vrefB, nameB]
  generalize c.Args.all argB = z
  cases z <;> simp only [ite_someB, some_eqB, ite_eqT, if_true, if_false, Bool.false_eq_true, Bool.and_eq_true, Bool.or_eq_true, Bool.not_eq_true', decide_eq_true_eq, decide_eq_false_iff_not, Bool.and_false, Bool.and_true, Bool.or_true, Bool.or_false, Bool.true_or, Bool.false_or, Bool.not_true, Bool.not_false, and_false, false_and, or_false, false_or, Classical.not_not, true_and, and_true, iff_false, false_iff, not_false_eq_true, not_true_eq_false, true_or, or_true ] <;> omega
theorem ref32_ValidCall_eq (N : Nat) (c : ActorCall) : ref32_ValidCall N c = some (callB c) := by
  have h := all_loop (L := ref32_ValidCall_L1 N) argB (some true) (some false) (fun _ => rfl) (fun x xs v => by
    simp only [ref32_ValidCall_L1, ref32_ValidCall_J2, ref1_ValidValue_eq, Option.bind_some, argB]
    by_cases hb : valueB x = true <;> by_cases h : x.Kind = 0 <;> simp [h, hb]) c.Args 0
  simp only [ref32_ValidCall, ref32_ValidCall_J1, ref32_ValidCall_J3, h, ref14_ValidRef_eq, ref16_ValidName_eq, Option.bind_some, callB]
  generalize c.Args.all argB = z
  generalize vrefB c.Target = b1
  generalize nameB c.Method = b2
  cases z <;> cases b1 <;> cases b2 <;> simp only [ite_someB, some_eqB, ite_eqT, if_true, if_false, Bool.false_eq_true, Bool.and_eq_true, Bool.or_eq_true, Bool.not_eq_true', decide_eq_true_eq, decide_eq_false_iff_not, Bool.and_false, Bool.and_true, Bool.or_true, Bool.or_false, Bool.true_or, Bool.false_or, Bool.not_true, Bool.not_false, and_false, false_and, or_false, false_or, Classical.not_not, true_and, and_true, iff_false, false_iff, not_false_eq_true, not_true_eq_false, true_or, or_true ] <;> omega
def subB (s : Submission) : Bool := nameB s.Client && decide (1 ≤ s.Seq) && decide (s.Seq ≤ 1099511627776) && decide (0 ≤ s.Acked) && decide (s.Acked < s.Seq) && decide (1 ≤ s.Calls.length) && decide (s.Calls.length ≤ 4) && (s.Atomic || decide (s.Calls.length = 1)) && s.Calls.all callB
theorem cf_calls (N : Nat) (l : List ActorCall) : slices_ContainsFunc_ActorCall_session_ValidSubmission_1 N l = some (!(l.all callB)) := by
  have h := find_loop (L := slices_IndexFunc_ActorCall_session_ValidSubmission_1_L1 N) (session_ValidSubmission_1 N) (fun v => !callB v) (fun _ => rfl) (fun _ _ _ => rfl) l 0 (fun x _ => by
    simp only [session_ValidSubmission_1, txn_ValidCall_eq, Option.bind_some])
  simp only [slices_ContainsFunc_ActorCall_session_ValidSubmission_1, slices_IndexFunc_ActorCall_session_ValidSubmission_1, h, Option.bind_some, findP_any, any_not]
theorem session_ValidSubmission_eq (N : Nat) (s : Submission) : session_ValidSubmission N s = some (subB s) := by
  simp only [session_ValidSubmission, session_ValidSubmission_J1, session_ValidSubmission_J2, session_ValidSubmission_J3, session_ValidSubmission_J4, session_validName_eq, cf_calls, Option.bind_some, Bool.not_not, subB]
  generalize s.Calls.all callB = z
  generalize nameB s.Client = b1
  generalize s.Atomic = b2
  cases z <;> cases b1 <;> cases b2 <;> simp only [ite_someB, some_eqB, ite_eqT, if_true, if_false, Bool.false_eq_true, Bool.and_eq_true, Bool.or_eq_true, Bool.not_eq_true', decide_eq_true_eq, decide_eq_false_iff_not, Bool.and_false, Bool.and_true, Bool.or_true, Bool.or_false, Bool.true_or, Bool.false_or, Bool.not_true, Bool.not_false, and_false, false_and, or_false, false_or, Classical.not_not, true_and, and_true, iff_false, false_iff, not_false_eq_true, not_true_eq_false, true_or, or_true ] <;> omega
theorem ref34_ValidSubmission_eq (N : Nat) (s : Submission) : ref34_ValidSubmission N s = some (subB s) := by
  have h := all_loop (L := ref34_ValidSubmission_L1 N) callB (some true) (some false) (fun _ => rfl) (fun x xs v => by
    simp only [ref34_ValidSubmission_L1, ref32_ValidCall_eq, Option.bind_some]) s.Calls 0
  simp only [ref34_ValidSubmission, ref34_ValidSubmission_J1, ref34_ValidSubmission_J2, h, ref16_ValidName_eq, Option.bind_some, subB]
  generalize s.Calls.all callB = z
  generalize nameB s.Client = b1
  generalize s.Atomic = b2
  cases z <;> cases b1 <;> cases b2 <;> simp only [ite_someB, some_eqB, ite_eqT, if_true, if_false, Bool.false_eq_true, Bool.and_eq_true, Bool.or_eq_true, Bool.not_eq_true', decide_eq_true_eq, decide_eq_false_iff_not, Bool.and_false, Bool.and_true, Bool.or_true, Bool.or_false, Bool.true_or, Bool.false_or, Bool.not_true, Bool.not_false, and_false, false_and, or_false, false_or, Classical.not_not, true_and, and_true, iff_false, false_iff, not_false_eq_true, not_true_eq_false, true_or, or_true ] <;> omega
def ackB (c : Session) : Int := match c.Open with
  | p :: _ => IntKind.i64.wrap (p.Submission_.Seq - 1)
  | [] => IntKind.i64.wrap (c.Next - 1)
theorem session_acknowledged_eq (N : Nat) (c : Session) : session_acknowledged N c = some (ackB c) := by
  obtain ⟨n, x, l⟩ := c
  cases l with
  | nil => rfl
  | cons p l =>
    have h : 0 < (((p :: l).length : Nat) : Int) := by simp only [List.length_cons]; omega
    simp only [session_acknowledged, h, if_true, ackB]
    exact gx_nat (i := 0) rfl
theorem ref34_acknowledged_eq (N : Nat) (c : Session) : ref34_acknowledged N c = some (ackB c) := session_acknowledged_eq N c
def pendB (c : Session) (prev : Option PendingSubmission) (p : PendingSubmission) : Bool :=
  subB p.Submission_ && sEq p.Submission_.Client c.Name && decide (p.Submission_.Seq < c.Next) && numB p.Sent && (match prev with
    | none => true
    | some q => decide (q.Submission_.Seq < p.Submission_.Seq))
def openB (c : Session) : Option PendingSubmission → List PendingSubmission → Bool
  | _, [] => true
  | q, p :: l => pendB c q p && openB c (some p) l
def prevP (l : List PendingSubmission) : Nat → Option PendingSubmission
  | 0 => none
  | v + 1 => l[v]?
theorem valid_loop (c : Session) (hc : c.Open.length ≤ 100000) (k : Option Bool) (L : List PendingSubmission → Nat → Unit → Option Bool) (h0 : ∀ v, L [] v () = k)
    (h1 : ∀ x xs v, v < c.Open.length → c.Open[v]? = some x → L (x :: xs) v () = if pendB c (prevP c.Open v) x = true then L xs (v + 1) () else some false) :
    ∀ (xs : List PendingSubmission) (v : Nat), c.Open.drop v = xs → v ≤ c.Open.length → L xs v () = if openB c (prevP c.Open v) xs = true then k else some false
  | [], v, _, _ => by rw [h0]; rfl
  | x :: xs, v, hd, hv => by
    have hlt : v < c.Open.length := by
      rcases Nat.lt_or_ge v c.Open.length with h | h
      · exact h
      · rw [List.drop_eq_nil_of_le h] at hd; cases hd
    rw [List.drop_eq_getElem_cons hlt] at hd
    simp only [List.cons.injEq] at hd
    have hx : c.Open[v]? = some x := by rw [List.getElem?_eq_getElem hlt, hd.1]
    rw [h1 x xs v hlt hx, valid_loop c hc k L h0 h1 xs (v + 1) hd.2 (by omega)]
    have hp : prevP c.Open (v + 1) = some x := hx
    rw [hp]
    simp only [openB]
    by_cases hb : pendB c (prevP c.Open v) x = true <;> simp [hb]
def valB (c : Session) : Bool := nameB c.Name && decide (1 ≤ c.Next) && decide (c.Next ≤ 1099511627776) && openB c none c.Open && decide (IntKind.i64.wrap (IntKind.i64.wrap (c.Next - 1) - ackB c) ≤ 16)
theorem session_Valid_eq (N : Nat) {c : Session} (hc : c.Open.length ≤ 100000) : session_Valid N c = some (valB c) := by
  have h := valid_loop c hc (session_Valid_J3 N c) (session_Valid_L1 (session_Valid_J3 N c) N c) (fun _ => rfl) (fun x xs v hlt hx => by
    simp only [session_Valid_L1, session_Valid_J2, session_ValidSubmission_eq, session_validTime_eq, Option.bind_some, pendB]
    cases v with
    | zero =>
      simp only [prevP]
      grind
    | succ v =>
      have e : IntKind.i64.wrap (((v + 1 : Nat) : Int) - 1) = ((v : Nat) : Int) := by rw [w64' (by omega) (by omega)]; omega
      have hy : c.Open[v]? = some c.Open[v] := List.getElem?_eq_getElem (by omega)
      have h0 : (0 : Int) < ((v + 1 : Nat) : Int) := by omega
      simp only [h0, if_true, e, gx_of hy, prevP, hy]
      grind) c.Open 0 rfl (by omega)
  simp only [session_Valid, session_Valid_J1, session_Valid_J4]
  simp only [h]
  simp only [session_Valid_J3, session_validName_eq, session_acknowledged_eq, Option.bind_some, valB, prevP]
  generalize nameB c.Name = b1
  generalize openB c none c.Open = b2
  generalize IntKind.i64.wrap (IntKind.i64.wrap (c.Next - 1) - ackB c) = n
  grind
theorem ref34_Valid_eq (N : Nat) {c : Session} (hc : c.Open.length ≤ 100000) : ref34_Valid N c = some (valB c) := by
  have h := valid_loop c hc (ref34_Valid_J3 N c) (ref34_Valid_L1 (ref34_Valid_J3 N c) N c) (fun _ => rfl) (fun x xs v hlt hx => by
    have en : numB x.Sent = (!decide (x.Sent < 0) && !decide (1099511627776 < x.Sent)) := by
      rw [bool_eqB]; simp only [numB, ite_someB, some_eqB, ite_eqT, if_true, if_false, Bool.false_eq_true, Bool.and_eq_true, Bool.or_eq_true, Bool.not_eq_true', decide_eq_true_eq, decide_eq_false_iff_not, Bool.and_false, Bool.and_true, Bool.or_true, Bool.or_false, Bool.true_or, Bool.false_or, Bool.not_true, Bool.not_false, and_false, false_and, or_false, false_or, Classical.not_not, true_and, and_true, iff_false, false_iff, not_false_eq_true, not_true_eq_false, true_or, or_true ]; omega
    simp only [ref34_Valid_L1, ref34_Valid_J2, ref34_ValidSubmission_eq, Option.bind_some, pendB, en]
    cases v with
    | zero =>
      simp only [prevP]
      grind
    | succ v =>
      have e : IntKind.i64.wrap (((v + 1 : Nat) : Int) - 1) = ((v : Nat) : Int) := by rw [w64' (by omega) (by omega)]; omega
      have hy : c.Open[v]? = some c.Open[v] := List.getElem?_eq_getElem (by omega)
      have h0 : (0 : Int) < ((v + 1 : Nat) : Int) := by omega
      simp only [h0, if_true, e, gx_of hy, prevP, hy]
      grind) c.Open 0 rfl (by omega)
  simp only [ref34_Valid, ref34_Valid_J1, ref34_Valid_J4]
  simp only [h]
  simp only [ref34_Valid_J3, ref16_ValidName_eq, ref34_acknowledged_eq, Option.bind_some, valB, prevP]
  generalize nameB c.Name = b1
  generalize openB c none c.Open = b2
  generalize IntKind.i64.wrap (IntKind.i64.wrap (c.Next - 1) - ackB c) = n
  grind
end Go.Proofs.Ythgcdhclommkcaa

set_option linter.unusedSimpArgs false
set_option linter.unusedVariables false
namespace Go.Proofs.Ythgcdhclommkcaa
open Go Go.Proofs Go.Abs
def bdV (v : Value) : Prop := v.I.length ≤ 17592186044416 ∧ v.L.length ≤ 8796093022208
def bdVs (l : List Value) : Prop := l.length ≤ 1759218604441 ∧ ∀ v ∈ l, bdV v
def bdCs (l : List ActorCall) : Prop := l.length ≤ 2000000 ∧ ∀ c ∈ l, bdVs c.Args
def bdOs (l : List PendingSubmission) : Prop := l.length ≤ 1000 ∧ ∀ p ∈ l, bdCs p.Submission_.Calls
theorem valueB_bd {v : Value} (h : valueB v = true) : bdV v := by
  simp only [valueB, Bool.and_eq_true, decide_eq_true_eq] at h
  exact ⟨by omega, by omega⟩
theorem callB_bd {c : ActorCall} (h : callB c = true) : bdVs c.Args := by
  simp only [callB, Bool.and_eq_true, decide_eq_true_eq, List.all_eq_true] at h
  refine ⟨by omega, fun v hv => valueB_bd ?_⟩
  have := h.2 v hv
  simp only [argB, Bool.and_eq_true] at this
  exact this.1
theorem subB_bd {s : Submission} (h : subB s = true) : bdCs s.Calls := by
  simp only [subB, Bool.and_eq_true, decide_eq_true_eq, List.all_eq_true] at h
  exact ⟨by omega, fun c hc => callB_bd (h.2 c hc)⟩
theorem openB_bd {c : Session} : ∀ {l : List PendingSubmission} {q : Option PendingSubmission}, openB c q l = true → ∀ p ∈ l, bdCs p.Submission_.Calls
  | [], _, _, p, hp => by cases hp
  | x :: l, q, h, p, hp => by
    simp only [openB, Bool.and_eq_true] at h
    rcases List.mem_cons.1 hp with rfl | hp
    · have := h.1
      simp only [pendB, Bool.and_eq_true] at this
      exact subB_bd this.1.1.1.1
    · exact openB_bd h.2 p hp
theorem valB_bd {c : Session} (hl : c.Open.length ≤ 1000) (h : valB c = true) : bdOs c.Open := by
  simp only [valB, Bool.and_eq_true] at h
  exact ⟨hl, openB_bd h.1.2⟩
theorem clone_int {N : Nat} {l : List Int} (h : l.length ≤ 17592186044416) : slices_Clone_int N l = some l := apn_of (by omega)
theorem clone_string {N : Nat} {l : List ByteArray} (h : l.length ≤ 8796093022208) : slices_Clone_string N l = some l := apn_of (by omega)
theorem clone_Value {N : Nat} {l : List Value} (h : l.length ≤ 1759218604441) : slices_Clone_Value N l = some l := apn_of (by omega)
theorem clone_ActorCall {N : Nat} {l : List ActorCall} (h : l.length ≤ 2000000) : slices_Clone_ActorCall N l = some l := apn_of (by omega)
theorem clone_Pending {N : Nat} {l : List PendingSubmission} (h : l.length ≤ 2000000) : slices_Clone_PendingSubmission N l = some l := apn_of (by omega)
theorem cloneCalls_eq {N : Nat} {l : List ActorCall} (h : bdCs l) : session_cloneCalls N l = some l := by
  obtain ⟨h1, h2⟩ := h
  simp only [session_cloneCalls, clone_ActorCall h1, Option.bind_some]
  rw [clone_loop (L := session_cloneCalls_L1 N) (fun c => bdVs c.Args) (by
    intro m v l x hx hp
    simp only [session_cloneCalls_L1, gx_of hx, clone_Value hp.1, Option.bind_some]
    rw [clone_loop (L := session_cloneCalls_L2 (session_cloneCalls_L1 N m (v + 1)) l v x N) bdV (by
      intro m' v' l' y hy hq
      simp only [session_cloneCalls_L2, gx_of hx, gx_of hy, clone_int hq.1, clone_string hq.2, Option.bind_some]
      have e : l'.set v' (Value.mk y.Kind y.N y.S y.I y.L) = l' := set_same hy
      rw [e]) (x.Args.length - 0) 0 x.Args (by omega) hp.2]
    simp only [session_cloneCalls_L2]
    have e : l.set v (ActorCall.mk x.Target x.Method x.Args) = l := set_same hx
    rw [e]) (l.length - 0) 0 l (by omega) h2]
  rfl
theorem cloneSub_eq {N : Nat} {s : Submission} (h : bdCs s.Calls) : session_cloneSubmission N s = some s := by
  simp only [session_cloneSubmission, cloneCalls_eq h, Option.bind_some]
theorem clone_eq {N : Nat} {c : Session} (h : bdOs c.Open) : session_clone N c = some c := by
  obtain ⟨h1, h2⟩ := h
  simp only [session_clone, clone_Pending (show c.Open.length ≤ 2000000 by omega), Option.bind_some]
  rw [clone_loop (L := session_clone_L1 c N) (fun p => bdCs p.Submission_.Calls) (by
    intro m v l x hx hp
    simp only [session_clone_L1, gx_of hx, cloneSub_eq hp, Option.bind_some]
    have e : l.set v (PendingSubmission.mk x.Submission_ x.Sent) = l := set_same hx
    rw [e]) (c.Open.length - 0) 0 c.Open (by omega) h2]
  rfl
theorem build_loop {α β ρ : Type} {L : List α → Nat → List β → Option ρ} (B : Nat) (f : α → β) (P : α → Prop) (k : List β → Option ρ) (h0 : ∀ v l, L [] v l = k l)
    (h1 : ∀ x xs v l, P x → l.length < B → L (x :: xs) v l = L xs (v + 1) (l ++ [f x])) :
    ∀ (xs : List α) (v : Nat) (l : List β), (∀ x ∈ xs, P x) → l.length + xs.length ≤ B → L xs v l = k (l ++ xs.map f)
  | [], v, l, _, _ => by rw [h0]; simp
  | x :: xs, v, l, hp, hb => by
    simp only [List.length_cons] at hb
    rw [h1 x xs v l (hp x (by simp)) (by omega), build_loop B f P k h0 h1 xs (v + 1) (l ++ [f x]) (fun y hy => hp y (by simp [hy])) (by simp; omega)]
    simp
theorem copyValue_eq {N : Nat} {v : Value} (h : bdV v) : ref32_CopyValue N v = some v := by
  obtain ⟨h1, h2⟩ := h
  simp only [ref32_CopyValue]
  rw [apn_of (by omega), apn_of (by omega)]
theorem copyValues_eq {N : Nat} {l : List Value} (h : bdVs l) : ref32_CopyValues N l = some l := by
  have := build_loop (L := ref32_CopyValues_L1 N) 1759218604441 id bdV some (fun _ _ => rfl) (fun x xs v l hp hb => by
    simp only [ref32_CopyValues_L1, copyValue_eq hp, Option.bind_some]
    rw [apx_of (by simp only [List.length_cons, List.length_nil]; omega)]; rfl) l 0 [] h.2 (by simpa using h.1)
  simpa [ref32_CopyValues] using this
theorem copyCalls_eq {N : Nat} {l : List ActorCall} (h : bdCs l) : ref32_CopyCalls N l = some l := by
  have := build_loop (L := ref32_CopyCalls_L1 N) 2000000 id (fun c => bdVs c.Args) some (fun _ _ => rfl) (fun x xs v l hp hb => by
    simp only [ref32_CopyCalls_L1, copyValues_eq hp, Option.bind_some]
    rw [apx_of (by simp only [List.length_cons, List.length_nil]; omega)]; rfl) l 0 [] h.2 (by simpa using h.1)
  simpa [ref32_CopyCalls] using this
theorem copySub_eq {N : Nat} {s : Submission} (h : bdCs s.Calls) : ref34_CopySubmission N s = some s := by
  simp only [ref34_CopySubmission, copyCalls_eq h, Option.bind_some]
theorem copy_eq {N : Nat} {c : Session} (h : bdOs c.Open) : ref34_Copy N c = some c := by
  have := build_loop (L := ref34_Copy_L1 c N) 1000 id (fun p => bdCs p.Submission_.Calls) (fun l => some (Session.mk c.Name c.Next l)) (fun _ _ => rfl) (fun x xs v l hp hb => by
    simp only [ref34_Copy_L1, copySub_eq hp, Option.bind_some]
    rw [apx_of (by simp only [List.length_cons, List.length_nil]; omega)]; rfl) c.Open 0 [] h.2 (by simpa using h.1)
  simpa [ref34_Copy] using this
def callE (a b : ActorCall) : Bool := refE a.Target b.Target && sEq a.Method b.Method && eqL valE a.Args b.Args
theorem callE_iff (a b : ActorCall) : callE a b = true ↔ a = b := by
  obtain ⟨a1, a2, a3⟩ := a
  obtain ⟨b1, b2, b3⟩ := b
  simp [callE, refE_iff, sEq_iff', eqL_iff valE_iff, and_assoc]
theorem sameValues_eq (N : Nat) (a b : List Value) : ref32_SameValues N a b = some (eqL valE a b) :=
  eq_fun (L := ref32_SameValues_L1 b N) a b _ (fun _ => rfl) (fun x xs v => by simp only [ref32_SameValues_L1, ref1_SameValue_eq, Option.bind_some])
theorem sameCall_eq (N : Nat) (a b : ActorCall) : ref32_SameCall N a b = some (callE a b) := by
  simp only [ref32_SameCall, sameValues_eq, Option.bind_some, callE, refE]
  generalize (sEq a.Target.Type_ b.Target.Type_ && sEq a.Target.Key b.Target.Key) = b1
  generalize sEq a.Method b.Method = b2
  cases b1 <;> cases b2 <;> simp
theorem sameCalls_eq (N : Nat) (a b : List ActorCall) : ref32_SameCalls N a b = some (eqL callE a b) :=
  eq_fun (L := ref32_SameCalls_L1 b N) a b _ (fun _ => rfl) (fun x xs v => by simp only [ref32_SameCalls_L1, sameCall_eq, Option.bind_some])
theorem sameCalls_refl (N : Nat) (a : List ActorCall) : ref32_SameCalls N a a = some true := by rw [sameCalls_eq, (eqL_iff callE_iff).2 rfl]
theorem sameSub_refl (N : Nat) (a : Submission) : ref34_SameSubmission N a a = some true := by
  simp only [ref34_SameSubmission, sameCalls_refl, sEq_refl, Option.bind_some, if_true]
theorem same_loop_refl {α : Type} {L : List α → Nat → Unit → Option Bool} (a : List α) (e : α → α → Option Bool) (he : ∀ x, e x x = some true) (h0 : ∀ v, L [] v () = some true)
    (h1 : ∀ x xs v, L (x :: xs) v () = gx a (v : Int) fun y => (e x y).bind fun r => if r = true then L xs (v + 1) () else some false) :
    ∀ (xs : List α) (v : Nat), a.drop v = xs → v ≤ a.length → L xs v () = some true
  | [], v, _, _ => h0 v
  | x :: xs, v, hd, hv => by
    have hlt : v < a.length := by
      rcases Nat.lt_or_ge v a.length with h | h
      · exact h
      · rw [List.drop_eq_nil_of_le h] at hd; cases hd
    rw [List.drop_eq_getElem_cons hlt] at hd
    simp only [List.cons.injEq] at hd
    have hx : a[v]? = some x := by rw [List.getElem?_eq_getElem hlt, hd.1]
    rw [h1, gx_of hx, he, Option.bind_some, if_pos rfl]
    exact same_loop_refl a e he h0 h1 xs (v + 1) hd.2 (by omega)
theorem sameSubs_refl (N : Nat) (a : List Submission) : ref34_SameSubmissions N a a = some true := by
  simp only [ref34_SameSubmissions, if_true]
  exact same_loop_refl (L := ref34_SameSubmissions_L1 a N) a (ref34_SameSubmission N) (sameSub_refl N) (fun _ => rfl) (fun x xs v => rfl) a 0 rfl (by omega)
theorem same_refl (N : Nat) (a : Session) : ref34_Same N a a = some true := by
  have := same_loop_refl (L := ref34_Same_L1 a N) a.Open (fun p q => if p.Sent = q.Sent then ref34_SameSubmission N p.Submission_ q.Submission_ else some false) (fun p => by simp only [if_true, sameSub_refl]) (fun _ => rfl) (fun x xs v => by
    simp only [ref34_Same_L1, ref34_Same_J2]
    congr 1
    funext y
    by_cases h : x.Sent = y.Sent
    · simp only [h, if_true]
      congr 1
      funext r
      cases r <;> simp
    · simp [h]) a.Open 0 rfl (by omega)
  simp only [ref34_Same, ref34_Same_J1, ref34_Same_J3, sEq_refl, if_true, decide_true, Bool.not_true, Bool.false_eq_true, if_false, this]
end Go.Proofs.Ythgcdhclommkcaa

set_option linter.unusedSimpArgs false
set_option linter.unusedVariables false
namespace Go.Proofs.Ythgcdhclommkcaa
open Go Go.Proofs Go.Abs
def zS : Session := Session.mk (⟨#[]⟩) 0 []
def zM : Submission := Submission.mk (⟨#[]⟩) 0 0 false []
theorem num_lt (n : Int) : numB n = (!decide (n < 0) && !decide (1099511627776 < n)) := by
  rw [bool_eqB]; simp only [numB, ite_someB, some_eqB, ite_eqT, if_true, if_false, Bool.false_eq_true, Bool.and_eq_true, Bool.or_eq_true, Bool.not_eq_true', decide_eq_true_eq, decide_eq_false_iff_not, Bool.and_false, Bool.and_true, Bool.or_true, Bool.or_false, Bool.true_or, Bool.false_or, Bool.not_true, Bool.not_false, and_false, false_and, or_false, false_or, Classical.not_not, true_and, and_true, iff_false, false_iff, not_false_eq_true, not_true_eq_false, true_or, or_true ]; omega
def newS (n : ByteArray) : Session × Int := if nameB n = true then (Session.mk n 1 [], 0) else (zS, 1)
theorem session_New_eq (N : Nat) (n : ByteArray) : session_New N n = some (newS n) := by
  simp only [session_New, session_validName_eq, Option.bind_some, newS]
  cases nameB n <;> rfl
theorem ref34_New_eq (N : Nat) (n : ByteArray) : ref34_New N n = some (newS n) := by
  simp only [ref34_New, ref16_ValidName_eq, Option.bind_some, newS]
  cases nameB n <;> rfl
def madeS (c : Session) (atomic : Bool) (calls : List ActorCall) : Submission := Submission.mk c.Name c.Next (ackB c) atomic calls
def submitS (c : Session) (now : Int) (atomic : Bool) (calls : List ActorCall) : Session × Submission × Int :=
  if (valB c && numB now) = true then
    if subB (madeS c atomic calls) = true then
      if c.Next = 1099511627776 ∨ IntKind.i64.wrap (IntKind.i64.wrap (c.Next - 1) - ackB c) = 16 then (zS, zM, 5)
      else (Session.mk c.Name (IntKind.i64.wrap (c.Next + 1)) (c.Open ++ [PendingSubmission.mk (madeS c atomic calls) now]), madeS c atomic calls, 0)
    else (zS, zM, 1)
  else (zS, zM, 1)
theorem session_Submit_eq (N : Nat) {c : Session} (hc : c.Open.length ≤ 900) (now : Int) (atomic : Bool) (calls : List ActorCall) : session_Submit N c now atomic calls = some (submitS c now atomic calls) := by
  simp only [session_Submit, session_Valid_eq N (show c.Open.length ≤ 100000 by omega), session_validTime_eq, Option.bind_some, session_Submit_J1, submitS]
  by_cases hv : valB c = true
  · have hb := valB_bd (show c.Open.length ≤ 1000 by omega) hv
    have hJ : session_Submit_J4 N c atomic calls now = some (if subB (madeS c atomic calls) = true then
      if c.Next = 1099511627776 ∨ IntKind.i64.wrap (IntKind.i64.wrap (c.Next - 1) - ackB c) = 16 then (zS, zM, 5)
      else (Session.mk c.Name (IntKind.i64.wrap (c.Next + 1)) (c.Open ++ [PendingSubmission.mk (madeS c atomic calls) now]), madeS c atomic calls, 0)
      else (zS, zM, 1)) := by
      simp only [session_Submit_J4, session_acknowledged_eq, session_ValidSubmission_eq, Option.bind_some]
      change (if subB (madeS c atomic calls) = true then _ else _) = _
      by_cases hs : subB (madeS c atomic calls) = true
      · have hbs := subB_bd hs
        have h3 : session_Submit_J3 N c (ackB c) atomic calls now = some (Session.mk c.Name (IntKind.i64.wrap (c.Next + 1)) (c.Open ++ [PendingSubmission.mk (madeS c atomic calls) now]), madeS c atomic calls, 0) := by
          simp only [session_Submit_J3, clone_eq hb, Option.bind_some]
          have hcs : session_cloneSubmission N (Submission.mk c.Name c.Next (ackB c) atomic calls) = some (madeS c atomic calls) := cloneSub_eq (s := madeS c atomic calls) hbs
          simp only [hcs, Option.bind_some]
          rw [apx_of (by simp only [List.length_cons, List.length_nil]; omega)]
        simp only [hs, if_true, h3, session_Submit_J2]
        by_cases h1 : c.Next = 1099511627776
        · simp only [h1, if_true, true_or]; rfl
        · by_cases h2 : IntKind.i64.wrap (IntKind.i64.wrap (c.Next - 1) - ackB c) = 16
          · simp only [h1, h2, decide_true, if_true, if_false, or_true]; rfl
          · simp [h1, h2]
      · simp only [hs, if_false]; rfl
    simp only [hJ, hv, if_true, Bool.true_and]
    cases numB now
    · simp [zS, zM]
    · simp
  · simp only [hv, if_false, if_true, Bool.false_and, Bool.false_eq_true]; rfl
theorem ref34_Submit_eq (N : Nat) {c : Session} (hc : c.Open.length ≤ 900) (now : Int) (atomic : Bool) {calls : List ActorCall} (hcal : bdCs calls) : ref34_Submit N c now atomic calls = some (submitS c now atomic calls) := by
  simp only [ref34_Submit, ref34_Valid_eq N (show c.Open.length ≤ 100000 by omega), Option.bind_some, ref34_Submit_J1, submitS, num_lt]
  by_cases hv : valB c = true
  · have hb := valB_bd (show c.Open.length ≤ 1000 by omega) hv
    have hJ : ref34_Submit_J4 N c calls atomic now = some (if subB (madeS c atomic calls) = true then
      if c.Next = 1099511627776 ∨ IntKind.i64.wrap (IntKind.i64.wrap (c.Next - 1) - ackB c) = 16 then (zS, zM, 5)
      else (Session.mk c.Name (IntKind.i64.wrap (c.Next + 1)) (c.Open ++ [PendingSubmission.mk (madeS c atomic calls) now]), madeS c atomic calls, 0)
      else (zS, zM, 1)) := by
      simp only [ref34_Submit_J4, ref34_acknowledged_eq, copyCalls_eq hcal, ref34_ValidSubmission_eq, Option.bind_some]
      change (if subB (madeS c atomic calls) = true then _ else _) = _
      by_cases hs : subB (madeS c atomic calls) = true
      · have hbs := subB_bd hs
        have h3 : ref34_Submit_J3 N c (ackB c) atomic calls now = some (Session.mk c.Name (IntKind.i64.wrap (c.Next + 1)) (c.Open ++ [PendingSubmission.mk (madeS c atomic calls) now]), madeS c atomic calls, 0) := by
          simp only [ref34_Submit_J3, copy_eq hb, Option.bind_some]
          have hcs : ref34_CopySubmission N (Submission.mk c.Name c.Next (ackB c) atomic calls) = some (madeS c atomic calls) := copySub_eq (s := madeS c atomic calls) hbs
          simp only [hcs, Option.bind_some]
          rw [apx_of (by simp only [List.length_cons, List.length_nil]; omega)]
          rfl
        simp only [hs, if_true, h3, ref34_Submit_J2]
        by_cases h1 : c.Next = 1099511627776
        · simp only [h1, if_true, true_or]; rfl
        · by_cases h2 : IntKind.i64.wrap (IntKind.i64.wrap (c.Next - 1) - ackB c) = 16
          · simp only [h1, h2, decide_true, if_true, if_false, or_true]; rfl
          · simp [h1, h2]
      · simp only [hs, if_false]; rfl
    simp only [hJ, hv, if_true, Bool.true_and]
    by_cases h1 : now < 0
    · simp [h1, zS, zM]
    · by_cases h2 : 1099511627776 < now
      · simp [h1, h2, zS, zM]
      · simp [h1, h2]
  · simp only [hv, if_false, if_true, Bool.false_and, Bool.false_eq_true]; rfl
def dueP (now : Int) (p : PendingSubmission) : Bool := !decide (now < IntKind.i64.wrap (p.Sent + 4))
def againM (a : Int) (s : Submission) : Submission := Submission.mk s.Client s.Seq a s.Atomic s.Calls
def againP (now a : Int) (p : PendingSubmission) : PendingSubmission := if dueP now p = true then PendingSubmission.mk (againM a p.Submission_) now else p
def resendS (c : Session) (now : Int) : Session × List Submission :=
  if (valB c && numB now) = true then (Session.mk c.Name c.Next (c.Open.map (againP now (ackB c))), (c.Open.filter (dueP now)).map fun p => againM (ackB c) p.Submission_)
  else (zS, [])
theorem resend_loop (N : Nat) (r : Session) (c : Session) (now : Int) : ∀ (suf pre : List PendingSubmission) (out : List Submission), out.length + suf.length ≤ 1000 → (∀ p ∈ suf, bdCs p.Submission_.Calls) →
    session_Resend_L1 r now N c suf.length pre.length (pre ++ suf, out) = some (Session.mk r.Name r.Next (pre ++ suf.map (againP now (ackB c))), out ++ (suf.filter (dueP now)).map fun p => againM (ackB c) p.Submission_)
  | [], pre, out, _, _ => by
    simp only [List.length_nil, session_Resend_L1, List.map_nil, List.filter_nil, List.append_nil]
  | x :: suf, pre, out, ho, hb => by
    simp only [List.length_cons] at ho
    have hx : (pre ++ x :: suf)[pre.length]? = some x := by simp
    have hb' : ∀ p ∈ suf, bdCs p.Submission_.Calls := fun p hp => hb p (List.mem_cons_of_mem _ hp)
    have hbv := hb x (by simp)
    simp only [List.length_cons, session_Resend_L1, gx_of hx, session_acknowledged_eq, Option.bind_some]
    by_cases hn : now < IntKind.i64.wrap (x.Sent + 4)
    · have hdue : dueP now x = false := by simp [dueP, hn]
      have ih := resend_loop N r c now suf (pre ++ [x]) out (by omega) hb'
      simp only [List.length_append, List.length_cons, List.length_nil, List.append_assoc, List.cons_append, List.nil_append] at ih
      rw [if_pos hn, ih, List.map_cons, List.filter_cons_of_neg (by rw [hdue]; simp)]
      simp only [againP, hdue, Bool.false_eq_true, if_false]
    · have hdue : dueP now x = true := by simp [dueP, hn]
      have hcs : session_cloneSubmission N (Submission.mk x.Submission_.Client x.Submission_.Seq (ackB c) x.Submission_.Atomic x.Submission_.Calls) = some (againM (ackB c) x.Submission_) := cloneSub_eq (s := againM (ackB c) x.Submission_) hbv
      have ih := resend_loop N r c now suf (pre ++ [PendingSubmission.mk (againM (ackB c) x.Submission_) now]) (out ++ [againM (ackB c) x.Submission_]) (by simp only [List.length_append, List.length_cons, List.length_nil]; omega) hb'
      simp only [List.length_append, List.length_cons, List.length_nil, List.append_assoc, List.cons_append, List.nil_append] at ih
      have es : (pre ++ x :: suf).set pre.length (PendingSubmission.mk (Submission.mk x.Submission_.Client x.Submission_.Seq (ackB c) x.Submission_.Atomic x.Submission_.Calls) now) = pre ++ PendingSubmission.mk (againM (ackB c) x.Submission_) now :: suf := by
        rw [List.set_append_right _ _ (Nat.le_refl _), Nat.sub_self, List.set_cons_zero]; rfl
      rw [if_neg hn, hcs, Option.bind_some, apx_of (by simp only [List.length_cons, List.length_nil]; omega), es]
      rw [Nat.zero_add] at ih
      rw [ih, List.map_cons, List.filter_cons_of_pos hdue, List.map_cons]
      simp only [againP, hdue, if_true]
theorem session_Resend_eq (N : Nat) {c : Session} (hc : c.Open.length ≤ 900) (now : Int) : session_Resend N c now = some (resendS c now) := by
  simp only [session_Resend, session_Valid_eq N (show c.Open.length ≤ 100000 by omega), session_validTime_eq, Option.bind_some, session_Resend_J1, resendS]
  by_cases hv : valB c = true
  · have hb := valB_bd (show c.Open.length ≤ 1000 by omega) hv
    have hJ : session_Resend_J2 N c now = some (Session.mk c.Name c.Next (c.Open.map (againP now (ackB c))), (c.Open.filter (dueP now)).map fun p => againM (ackB c) p.Submission_) := by
      simp only [session_Resend_J2, clone_eq hb, Option.bind_some]
      have := resend_loop N c c now c.Open [] [] (by simp only [List.length_nil]; omega) hb.2
      simpa using this
    simp only [hJ, hv, if_true, Bool.true_and]
    cases numB now
    · simp [zS, zM]
    · simp
  · simp only [hv, if_false, if_true, Bool.false_and, Bool.false_eq_true]; rfl
end Go.Proofs.Ythgcdhclommkcaa

set_option linter.unusedSimpArgs false
set_option linter.unusedVariables false
namespace Go.Proofs.Ythgcdhclommkcaa
open Go Go.Proofs Go.Abs
def headSeq (l : List PendingSubmission) : Option Int := l.head?.map (·.Submission_.Seq)
theorem ackB_head {n : ByteArray} {x : Int} {l l' : List PendingSubmission} (h : headSeq l = headSeq l') : ackB (Session.mk n x l) = ackB (Session.mk n x l') := by
  cases l <;> cases l' <;> simp_all [headSeq, ackB]
theorem headSeq_set {l : List PendingSubmission} {i : Nat} {p q : PendingSubmission} (hi : l[i]? = some p) (hs : q.Submission_.Seq = p.Submission_.Seq) : headSeq (l.set i q) = headSeq l := by
  cases l with
  | nil => simp at hi
  | cons y l =>
    cases i with
    | zero =>
      simp only [List.getElem?_cons_zero, Option.some.injEq] at hi
      subst hi
      simp [headSeq, hs]
    | succ i => simp [headSeq]
theorem ref_resend_loop (N : Nat) (c : Session) (now : Int) : ∀ (suf pre : List PendingSubmission) (out : List Submission) (n : Nat), suf.length < n → out.length + suf.length ≤ 1000 → pre.length + suf.length ≤ 1000 → headSeq (pre ++ suf) = headSeq c.Open → (∀ p ∈ suf, bdCs p.Submission_.Calls) →
    ref34_Resend_L1 now N c n (pre ++ suf, out, ((pre.length : Nat) : Int)) = some (Session.mk c.Name c.Next (pre ++ suf.map (againP now (ackB c))), out ++ (suf.filter (dueP now)).map fun p => againM (ackB c) p.Submission_)
  | [], pre, out, n, hn, _, hl, _, _ => by
    cases n with
    | zero => simp at hn
    | succ n =>
      simp only [ref34_Resend_L1, List.append_nil, Int.lt_irrefl, if_false, List.map_nil, List.filter_nil]
  | x :: suf, pre, out, n, hn, ho, hl, hh, hb => by
    simp only [List.length_cons] at ho hn hl
    cases n with
    | zero => simp at hn
    | succ n =>
      have hx : (pre ++ x :: suf)[pre.length]? = some x := by simp
      have hb' : ∀ p ∈ suf, bdCs p.Submission_.Calls := fun p hp => hb p (List.mem_cons_of_mem _ hp)
      have hbv := hb x (by simp)
      have hlt : ((pre.length : Nat) : Int) < (((pre ++ x :: suf).length : Nat) : Int) := by simp only [List.length_append, List.length_cons]; omega
      have hw : IntKind.i64.wrap (((pre.length : Nat) : Int) + 1) = (((pre.length + 1 : Nat)) : Int) := by rw [w64' (by omega) (by omega)]; omega
      simp only [ref34_Resend_L1, hlt, if_true, gx_of hx, hw, Int.toNat_natCast]
      by_cases hnow : now < IntKind.i64.wrap (x.Sent + 4)
      · have hdue : dueP now x = false := by simp [dueP, hnow]
        have ih := ref_resend_loop N c now suf (pre ++ [x]) out n (by omega) (by omega) (by simp only [List.length_append, List.length_cons, List.length_nil]; omega) (by simpa using hh) hb'
        simp only [List.length_append, List.length_cons, List.length_nil, List.append_assoc, List.cons_append, List.nil_append, Nat.zero_add] at ih
        rw [if_pos hnow, ih, List.map_cons, List.filter_cons_of_neg (by rw [hdue]; simp)]
        simp only [againP, hdue, Bool.false_eq_true, if_false]
      · have hdue : dueP now x = true := by simp [dueP, hnow]
        have hack : ackB (Session.mk c.Name c.Next ((pre ++ x :: suf).set pre.length (PendingSubmission.mk x.Submission_ now))) = ackB c := by
          have : ackB c = ackB (Session.mk c.Name c.Next c.Open) := rfl
          rw [this]
          exact ackB_head ((headSeq_set (q := PendingSubmission.mk x.Submission_ now) hx rfl).trans hh)
        have hcs : ref34_CopySubmission N (Submission.mk x.Submission_.Client x.Submission_.Seq (ackB c) x.Submission_.Atomic x.Submission_.Calls) = some (againM (ackB c) x.Submission_) := copySub_eq (s := againM (ackB c) x.Submission_) hbv
        have es : (pre ++ x :: suf).set pre.length (PendingSubmission.mk (Submission.mk x.Submission_.Client x.Submission_.Seq (ackB c) x.Submission_.Atomic x.Submission_.Calls) now) = pre ++ PendingSubmission.mk (againM (ackB c) x.Submission_) now :: suf := by
          rw [List.set_append_right _ _ (Nat.le_refl _), Nat.sub_self, List.set_cons_zero]; rfl
        have hh' : headSeq (pre ++ PendingSubmission.mk (againM (ackB c) x.Submission_) now :: suf) = headSeq c.Open := by
          rw [← es]; exact (headSeq_set (q := PendingSubmission.mk (Submission.mk x.Submission_.Client x.Submission_.Seq (ackB c) x.Submission_.Atomic x.Submission_.Calls) now) hx rfl).trans hh
        have ih := ref_resend_loop N c now suf (pre ++ [PendingSubmission.mk (againM (ackB c) x.Submission_) now]) (out ++ [againM (ackB c) x.Submission_]) n (by omega) (by simp only [List.length_append, List.length_cons, List.length_nil]; omega) (by simp only [List.length_append, List.length_cons, List.length_nil]; omega) (by simpa using hh') hb'
        simp only [List.length_append, List.length_cons, List.length_nil, List.append_assoc, List.cons_append, List.nil_append, Nat.zero_add] at ih
        rw [if_neg hnow, ref34_acknowledged_eq, hack, Option.bind_some, hcs, Option.bind_some, apx_of (by simp only [List.length_cons, List.length_nil]; omega), es, ih, List.map_cons, List.filter_cons_of_pos hdue, List.map_cons]
        simp only [againP, hdue, if_true]
theorem ref34_Resend_eq {N : Nat} (hN : 1000 < N) {c : Session} (hc : c.Open.length ≤ 900) (now : Int) : ref34_Resend N c now = some (resendS c now) := by
  simp only [ref34_Resend, ref34_Valid_eq N (show c.Open.length ≤ 100000 by omega), Option.bind_some, ref34_Resend_J1, resendS, num_lt]
  by_cases hv : valB c = true
  · have hb := valB_bd (show c.Open.length ≤ 1000 by omega) hv
    have hJ : ref34_Resend_J2 N c now = some (Session.mk c.Name c.Next (c.Open.map (againP now (ackB c))), (c.Open.filter (dueP now)).map fun p => againM (ackB c) p.Submission_) := by
      simp only [ref34_Resend_J2, copy_eq hb, Option.bind_some]
      have := ref_resend_loop N c now c.Open [] [] N (by omega) (by simp only [List.length_nil]; omega) (by simp only [List.length_nil]; omega) rfl hb.2
      simpa using this
    simp only [hJ, hv, if_true, Bool.true_and]
    by_cases h1 : now < 0
    · simp [h1, zS]
    · by_cases h2 : 1099511627776 < now
      · simp [h1, h2, zS]
      · simp [h1, h2]
  · simp only [hv, if_false, if_true, Bool.false_and, Bool.false_eq_true]; rfl
def repB (r : Reply) : Bool := nameB r.Client && seqB r.Seq && decide (r.Path.length = 0) && decide (0 ≤ r.Err) && decide (r.Err ≤ 27) && valueB r.Value_ && (decide (r.Err = 0) || decide (r.Value_.Kind = 0))
theorem dedup_ValidReply_eq (N : Nat) (r : Reply) : dedup_ValidReply N r = some (repB r) := by
  simp only [dedup_ValidReply, dedup_name_eq, dedup_number_eq, wire_ValidValue_eq, Option.bind_some, repB]
  generalize nameB r.Client = b1
  generalize seqB r.Seq = b2
  generalize valueB r.Value_ = b3
  cases b1 <;> cases b2 <;> cases b3 <;> simp only [ite_someB, some_eqB, ite_eqT, if_true, if_false, Bool.false_eq_true, Bool.and_eq_true, Bool.or_eq_true, Bool.not_eq_true', decide_eq_true_eq, decide_eq_false_iff_not, Bool.and_false, Bool.and_true, Bool.or_true, Bool.or_false, Bool.true_or, Bool.false_or, Bool.not_true, Bool.not_false, and_false, false_and, or_false, false_or, Classical.not_not, true_and, and_true, iff_false, false_iff, not_false_eq_true, not_true_eq_false, true_or, or_true ] <;> omega
theorem ref16_ValidReply_eq (N : Nat) (r : Reply) : ref16_ValidReply N r = some (repB r) := by
  simp only [ref16_ValidReply, ref16_ValidName_eq, ref1_ValidValue_eq, Option.bind_some, repB, seqB]
  generalize nameB r.Client = b1
  generalize valueB r.Value_ = b3
  cases b1 <;> cases b3 <;> simp only [ite_someB, some_eqB, ite_eqT, if_true, if_false, Bool.false_eq_true, Bool.and_eq_true, Bool.or_eq_true, Bool.not_eq_true', decide_eq_true_eq, decide_eq_false_iff_not, Bool.and_false, Bool.and_true, Bool.or_true, Bool.or_false, Bool.true_or, Bool.false_or, Bool.not_true, Bool.not_false, and_false, false_and, or_false, false_or, Classical.not_not, true_and, and_true, iff_false, false_iff, not_false_eq_true, not_true_eq_false, true_or, or_true ] <;> omega
def isSeq (n : Int) (p : PendingSubmission) : Bool := decide (p.Submission_.Seq = n)
def dropFirst {α : Type} (p : α → Bool) : List α → List α
  | [] => []
  | x :: l => if p x = true then l else x :: dropFirst p l
def acceptS (c : Session) (r : Reply) : Session × Bool :=
  if valB c = true then
    if (repB r && sEq r.Client c.Name && c.Open.any (isSeq r.Seq)) = true then (Session.mk c.Name c.Next (dropFirst (isSeq r.Seq) c.Open), true)
    else (c, false)
  else (zS, false)
theorem findP_drop {α : Type} (p : α → Bool) : ∀ (suf pre : List α), suf.any p = true → ∃ i, findP p suf pre.length = ((i : Nat) : Int) ∧ i < pre.length + suf.length ∧ (pre ++ suf).take i ++ (pre ++ suf).drop (i + 1) = pre ++ dropFirst p suf
  | [], pre, h => by simp at h
  | x :: suf, pre, h => by
    by_cases hx : p x = true
    · refine ⟨pre.length, by simp [findP, hx], by simp, ?_⟩
      simp only [dropFirst, hx, if_true]
      rw [List.take_left' rfl, List.drop_append]; simp
    · have h' : suf.any p = true := by simpa [hx] using h
      obtain ⟨i, h1, h2, h3⟩ := findP_drop p suf (pre ++ [x]) h'
      refine ⟨i, ?_, ?_, ?_⟩
      · simp only [List.length_append, List.length_cons, List.length_nil, Nat.zero_add] at h1
        simp [findP, hx, h1]
      · simp only [List.length_append, List.length_cons, List.length_nil] at h2 ⊢; omega
      · simp only [List.append_assoc, List.cons_append, List.nil_append] at h3
        simp only [dropFirst, hx, if_false]
        simpa using h3
theorem findP_none {α : Type} (p : α → Bool) : ∀ (l : List α) (v : Nat), l.any p = false → findP p l v = -1
  | [], v, _ => rfl
  | x :: l, v, h => by
    simp only [List.any_cons, Bool.or_eq_false_iff] at h
    simp [findP, h.1, findP_none p l (v + 1) h.2]
theorem session_Accept_eq (N : Nat) {c : Session} (hc : c.Open.length ≤ 900) (r : Reply) : session_Accept N c r = some (acceptS c r) := by
  simp only [session_Accept, session_Valid_eq N (show c.Open.length ≤ 100000 by omega), Option.bind_some, acceptS]
  by_cases hv : valB c = true
  · have hb := valB_bd (show c.Open.length ≤ 1000 by omega) hv
    have hi : slices_IndexFunc_PendingSubmission_session_Accept_1 N c.Open r.Client r.Seq r.Path r.Err r.Value_.Kind r.Value_.N r.Value_.S r.Value_.I r.Value_.L = some (findP (isSeq r.Seq) c.Open 0) :=
      find_loop (L := slices_IndexFunc_PendingSubmission_session_Accept_1_L1 N r.Client r.Seq r.Path r.Err r.Value_.Kind r.Value_.N r.Value_.S r.Value_.I r.Value_.L) (fun p => session_Accept_1 N p r.Client r.Seq r.Path r.Err r.Value_.Kind r.Value_.N r.Value_.S r.Value_.I r.Value_.L) (isSeq r.Seq) (fun _ => rfl) (fun _ _ _ => rfl) c.Open 0 (fun x _ => rfl)
    simp only [hv, if_true, clone_eq hb, hi, dedup_ValidReply_eq, Option.bind_some, session_Accept_J1]
    by_cases ha : c.Open.any (isSeq r.Seq) = true
    · obtain ⟨i, h1, h2, h3⟩ := findP_drop (isSeq r.Seq) c.Open [] ha
      simp only [List.length_nil, Nat.zero_add, List.nil_append] at h1 h2 h3
      have hneg : ¬ ((i : Nat) : Int) < 0 := by omega
      have hw : IntKind.i64.wrap (((i : Nat) : Int) + 1) = ((i + 1 : Nat) : Int) := by rw [w64' (by omega) (by omega)]; omega
      have hJ : session_Accept_J2 N c ((i : Nat) : Int) = some (Session.mk c.Name c.Next (dropFirst (isSeq r.Seq) c.Open), true) := by
        simp only [session_Accept_J2, hw, slices_Delete_PendingSubmission, delM]
        rw [if_pos (by simp; omega)]
        simp only [Int.toNat_natCast, Option.bind_some, h3]
      rw [h1]
      simp only [hJ, hneg, decide_false, ha, Bool.and_true]
      cases repB r <;> cases sEq r.Client c.Name <;> simp
    · have ha' : c.Open.any (isSeq r.Seq) = false := by simpa using ha
      rw [findP_none _ _ _ ha']
      simp only [ha', Bool.and_false]
      cases repB r <;> cases sEq r.Client c.Name <;> simp
  · simp only [hv, if_false, Bool.false_eq_true]; rfl
end Go.Proofs.Ythgcdhclommkcaa

set_option linter.unusedSimpArgs false
set_option linter.unusedVariables false
namespace Go.Proofs.Ythgcdhclommkcaa
open Go Go.Proofs Go.Abs
theorem slt_of {α β : Type} {l : List α} {n : Nat} {k : List α → Option β} (h : n ≤ l.length) : slt l ((n : Nat) : Int) k = k (l.take n) := by
  unfold slt
  rw [if_pos ⟨by omega, by simpa using h⟩, Int.toNat_natCast]
theorem slx_of {α β : Type} {l : List α} {m n : Nat} {k : List α → Option β} (h1 : m ≤ n) (h : n ≤ l.length) : slx l ((m : Nat) : Int) ((n : Nat) : Int) k = k ((l.drop m).take (n - m)) := by
  unfold slx
  rw [if_pos ⟨by omega, by omega, by simpa using h1, by simpa using h⟩]
  simp
theorem ref_accept_loop {c : Session} (hc : c.Open.length ≤ 900) (r : Reply) : ∀ (suf pre : List PendingSubmission), pre ++ suf = c.Open →
    ref34_Accept_L1 c r suf pre.length () = some (if suf.any (isSeq r.Seq) = true then (Session.mk c.Name c.Next (pre ++ dropFirst (isSeq r.Seq) suf), true) else (c, false))
  | [], pre, _ => by simp [ref34_Accept_L1]
  | x :: suf, pre, h => by
    have hl : pre.length + (suf.length + 1) = c.Open.length := by rw [← h]; simp
    by_cases hx : x.Submission_.Seq = r.Seq
    · have hs : isSeq r.Seq x = true := by simp [isSeq, hx]
      have hw : IntKind.i64.wrap (((pre.length : Nat) : Int) + 1) = ((pre.length + 1 : Nat) : Int) := by rw [w64' (by omega) (by omega)]; omega
      simp only [ref34_Accept_L1, hx, if_true, hw]
      rw [slt_of (by omega), slx_of (by omega) (Nat.le_refl _)]
      have e1 : c.Open.take pre.length = pre := by rw [← h]; exact List.take_left' rfl
      have e2 : (c.Open.drop (pre.length + 1)).take (c.Open.length - (pre.length + 1)) = suf := by
        rw [List.take_of_length_le (by simp), ← h, List.drop_append]; simp
      rw [e1, e2, apx_of (by omega)]
      simp [hs, dropFirst]
    · have hs : isSeq r.Seq x = false := by simp [isSeq, hx]
      have ih := ref_accept_loop hc r suf (pre ++ [x]) (by simpa using h)
      simp only [List.length_append, List.length_cons, List.length_nil, Nat.zero_add] at ih
      simp only [ref34_Accept_L1, hx, if_false, ih, List.any_cons, hs, Bool.false_or, dropFirst, Bool.false_eq_true, List.append_assoc, List.cons_append, List.nil_append]
theorem ref34_Accept_eq (N : Nat) {c : Session} (hc : c.Open.length ≤ 900) (r : Reply) : ref34_Accept N c r = some (acceptS c r) := by
  simp only [ref34_Accept, ref34_Valid_eq N (show c.Open.length ≤ 100000 by omega), Option.bind_some, acceptS]
  by_cases hv : valB c = true
  · have hb := valB_bd (show c.Open.length ≤ 1000 by omega) hv
    have hJ : ref34_Accept_J2 c r = some (if c.Open.any (isSeq r.Seq) = true then (Session.mk c.Name c.Next (dropFirst (isSeq r.Seq) c.Open), true) else (c, false)) := by
      have := ref_accept_loop hc r c.Open [] rfl
      simpa [ref34_Accept_J2] using this
    simp only [hv, if_true, copy_eq hb, ref16_ValidReply_eq, Option.bind_some, ref34_Accept_J1, hJ]
    cases repB r <;> cases sEq r.Client c.Name <;> simp <;> split <;> rfl
  · simp only [hv, if_false, Bool.false_eq_true]; rfl
theorem agree_eq {N : Nat} (hN : 1000 < N) {c : Session} (hc : c.Open.length ≤ 900) (now : Int) (atomic : Bool) {calls : List ActorCall} (hcal : bdCs calls) (r : Reply) : law34_agree N c now atomic calls r = some true := by
  have hv := show c.Open.length ≤ 100000 by omega
  simp only [law34_agree, session_Submit_eq N hc, ref34_Submit_eq N hc now atomic hcal, session_Resend_eq N hc, ref34_Resend_eq hN hc, session_Accept_eq N hc, ref34_Accept_eq N hc, Option.bind_some, if_true, same_refl, sameSub_refl, sameSubs_refl,
    law34_agree_J1, Bool.not_true, Bool.false_eq_true, if_false, law34_agree_J2, session_Valid_eq N hv, ref34_Valid_eq N hv]
  simp only [session_Acknowledged, ref34_Acknowledged, session_Valid_eq N hv, ref34_Valid_eq N hv, session_acknowledged_eq, ref34_acknowledged_eq, Option.bind_some]
  cases valB c <;> simp
end Go.Proofs.Ythgcdhclommkcaa

set_option linter.unusedSimpArgs false
set_option linter.unusedVariables false
namespace Go.Proofs.Ythgcdhclommkcaa
open Go Go.Proofs Go.Abs
theorem awake34 : law34_awake 1001 = some true := by decide +kernel
end Go.Proofs.Ythgcdhclommkcaa

set_option linter.unusedSimpArgs false
set_option linter.unusedVariables false
namespace Go.Proofs.Ythgcdhclommkcaa
open Go Go.Proofs Go.Abs
theorem plain_SessionAny (c : Session) (name : ByteArray) (now : Int) (atomic : Bool) (calls : List ActorCall) (r : Reply) (s : Submission) (h : ∀ x ∈ calls, bdVs x.Args) : law34_SessionAny 1001 c name now atomic calls r s = some true := by
  simp only [law34_SessionAny, awake34, Option.bind_some, if_true]
  by_cases h1 : 60 < ((c.Open.length : Nat) : Int)
  · simp only [h1, if_true, law34_SessionAny_J1]
  · rw [if_neg h1]
    by_cases h2 : 10 < ((calls.length : Nat) : Int)
    · simp only [h2, if_true, law34_SessionAny_J1]
    · rw [if_neg h2]
      by_cases h3 : 10 < ((s.Calls.length : Nat) : Int)
      · simp only [h3, decide_true, if_true, law34_SessionAny_J1]
      · have hag := agree_eq (N := 1001) (by decide) (c := c) (by omega) now atomic (calls := calls) ⟨by omega, h⟩ r
        simp only [h3, decide_false, Bool.false_eq_true, if_false, law34_SessionAny_J1, law34_SessionAny_J4, session_New_eq, ref34_New_eq, Option.bind_some, if_true, same_refl, session_ValidSubmission_eq, ref34_ValidSubmission_eq, decide_true, Bool.not_true, law34_SessionAny_J2, law34_SessionAny_J3, hag]
end Go.Proofs.Ythgcdhclommkcaa
