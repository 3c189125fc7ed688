/- Plain facts on the models; no program in sight. -/
import Derived.Test.YtmgpaicldmgckaaM
set_option linter.unusedSimpArgs false
set_option linter.unusedVariables false
namespace Go.Proofs.Ytmgpaicldmgckaa
open Go Go.Proofs Go.Abs
theorem w64' {n : Int} (h1 : -9223372036854775808 ≤ n) (h2 : n ≤ 9223372036854775807) : IntKind.i64.wrap n = n := wrap64_in h1 h2
theorem sEq_iff' {a b : ByteArray} : sEq a b = true ↔ a = b := by
  unfold sEq
  rw [beq_iff_eq, ByteArray.toList_eq, ByteArray.toList_eq]
  obtain ⟨⟨x⟩⟩ := a
  obtain ⟨⟨y⟩⟩ := b
  simp
theorem sEq_refl (a : ByteArray) : sEq a a = true := sEq_iff'.2 rfl
theorem ite_someB {c : Prop} [Decidable c] {a b : Bool} : (if c then some a else some b) = some (if c then a else b) := by split <;> rfl
theorem ite_eqT {c : Prop} [Decidable c] {a b : Bool} : ((if c then a else b) = true) ↔ ((c ∧ a = true) ∨ (¬ c ∧ b = true)) := by split <;> simp [*]
theorem some_eqB {a b : Bool} : (some a = some b) ↔ (a = true ↔ b = true) := by cases a <;> cases b <;> simp
theorem bool_eqB {a b : Bool} : (a = b) ↔ (a = true ↔ b = true) := by cases a <;> cases b <;> simp
theorem gx_of {α β : Type} {l : List α} {i : Nat} {x : α} {k : α → Option β} (h : l[i]? = some x) : gx l (i : Int) k = k x := gx_nat h
def all2 {α : Type} (e : α → α → Bool) : List α → List α → Bool
  | [], _ => true
  | x :: xs, y :: ys => e x y && all2 e xs ys
  | _ :: _, [] => false
theorem all2_iff {α : Type} {e : α → α → Bool} (he : ∀ x y, e x y = true ↔ x = y) : ∀ {a b : List α}, a.length = b.length → (all2 e a b = true ↔ a = b)
  | [], [], _ => by simp [all2]
  | [], _ :: _, h => by simp at h
  | _ :: _, [], h => by simp at h
  | x :: a, y :: b, h => by
    simp only [all2, Bool.and_eq_true, he, List.cons.injEq]
    rw [all2_iff he (by simpa using h)]
theorem eq_loop {α : Type} {L : List α → Nat → Unit → Option Bool} (a1 : List α) (e : α → α → Bool) (h0 : ∀ v, L [] v () = some true)
    (h1 : ∀ x xs v, L (x :: xs) v () = gx a1 (v : Int) fun y => if e x y = true then L xs (v + 1) () else some false) :
    ∀ (xs : List α) (v : Nat), v + xs.length ≤ a1.length → L xs v () = some (all2 e xs (a1.drop v))
  | [], v, _ => by rw [h0]; rfl
  | x :: xs, v, h => by
    simp only [List.length_cons] at h
    have hv : v < a1.length := by omega
    rw [h1, gx_of (List.getElem?_eq_getElem hv), List.drop_eq_getElem_cons hv, eq_loop a1 e h0 h1 xs (v + 1) (by omega)]
    simp only [all2]
    cases e x a1[v] <;> simp
def eqL {α : Type} (e : α → α → Bool) (a b : List α) : Bool := decide (a.length = b.length) && all2 e a b
theorem eqL_iff {α : Type} {e : α → α → Bool} (he : ∀ x y, e x y = true ↔ x = y) {a b : List α} : eqL e a b = true ↔ a = b := by
  unfold eqL
  by_cases h : a.length = b.length
  · simp [h, all2_iff he h]
  · have : ¬ a = b := fun e => h (by rw [e])
    simp [h, this]
theorem eq_fun {α : Type} {L : List α → Nat → Unit → Option Bool} (a0 a1 : List α) (e : α → α → Bool) (h0 : ∀ v, L [] v () = some true)
    (h1 : ∀ x xs v, L (x :: xs) v () = gx a1 (v : Int) fun y => if e x y = true then L xs (v + 1) () else some false) :
    (if ((a0.length : Nat) : Int) = ((a1.length : Nat) : Int) then L a0 0 () else some false) = some (eqL e a0 a1) := by
  unfold eqL
  by_cases h : a0.length = a1.length
  · rw [if_pos (by omega), eq_loop a1 e h0 h1 a0 0 (by omega), List.drop_zero]
    simp [h]
  · rw [if_neg (by omega)]
    simp [h]
def findP {α : Type} (p : α → Bool) : List α → Nat → Int
  | [], _ => -1
  | x :: xs, v => if p x = true then (v : Int) else findP p xs (v + 1)
theorem find_loop {α : Type} {L : List α → Nat → Unit → Option Int} (f : α → Option Bool) (p : α → Bool) (h0 : ∀ v, L [] v () = some (-1))
    (h1 : ∀ x xs v, L (x :: xs) v () = (f x).bind fun r => if r = true then some ((v : Nat) : Int) else L xs (v + 1) ()) :
    ∀ (xs : List α) (v : Nat), (∀ x ∈ xs, f x = some (p x)) → L xs v () = some (findP p xs v)
  | [], v, _ => by rw [h0]; rfl
  | x :: xs, v, h => by
    rw [h1, h x (by simp), Option.bind_some, find_loop f p h0 h1 xs (v + 1) (fun y hy => h y (by simp [hy]))]
    simp only [findP]
    cases p x <;> rfl
theorem findP_any {α : Type} (p : α → Bool) : ∀ (xs : List α) (v : Nat), decide (0 ≤ findP p xs v) = xs.any p
  | [], v => rfl
  | x :: xs, v => by
    simp only [findP, List.any_cons]
    by_cases h : p x = true
    · have : (0 : Int) ≤ (v : Int) := by omega
      simp [h, this]
    · simpa [h] using findP_any p xs (v + 1)
theorem set_same {α : Type} {l : List α} {i : Nat} {x : α} (h : l[i]? = some x) : l.set i x = l := by
  apply List.ext_getElem?
  intro j
  rw [List.getElem?_set]
  split
  · rename_i e
    subst e
    have := (List.getElem?_eq_some_iff.1 h).1
    rw [if_pos this, h]
  · rfl
theorem clone_loop {α ρ : Type} {L : Nat → Nat → List α → Option ρ} (P : α → Prop)
    (h1 : ∀ m v l x, l[v]? = some x → P x → L (m + 1) v l = L m (v + 1) l) :
    ∀ (m v : Nat) (l : List α), v + m ≤ l.length → (∀ x ∈ l, P x) → L m v l = L 0 (v + m) l
  | 0, v, l, _, _ => rfl
  | m + 1, v, l, h, hp => by
    have hv : v < l.length := by omega
    rw [h1 m v l l[v] (List.getElem?_eq_getElem hv) (hp _ (List.getElem_mem hv)), clone_loop P h1 m (v + 1) l (by omega) hp]
    congr 1; omega
theorem apn_of {α β : Type} {b : Nat} {l : List α} {k : Option β} (h : l.length * (b + 1) ≤ 140737488355328) : apn b l k = k := by simp only [apn]; rw [if_pos h]
theorem apx_of {α β : Type} {b : Nat} {l l' : List α} {k : List α → Option β} (h : (l.length + l'.length) * (b + 1) ≤ 140737488355328) : apx b l l' k = k (l ++ l') := by simp only [apx]; rw [if_pos h]
end Go.Proofs.Ytmgpaicldmgckaa

set_option linter.unusedSimpArgs false
set_option linter.unusedVariables false
namespace Go.Proofs.Ytmgpaicldmgckaa
open Go Go.Proofs Go.Abs
def strsB (l : List ByteArray) : Bool := l.all fun s => decide (s.size ≤ 64)
theorem wire_VV_L1 : ∀ (xs : List ByteArray) (v : Nat), wire_ValidValue_L1 xs v () = some (strsB xs)
  | [], v => rfl
  | x :: xs, v => by
    have ih := wire_VV_L1 xs (v + 1)
    simp only [wire_ValidValue_L1, ih, strsB, List.all_cons]
    grind
def valueB (v : Value) : Bool :=
  decide (0 ≤ v.Kind) && decide (v.Kind ≤ 5) &&
  decide (v.N = 0 ∨ v.Kind = 1 ∨ (v.Kind = 2 ∧ v.N = 1)) &&
  (sEq v.S ⟨#[]⟩ || decide (v.Kind = 3)) && (decide (v.I.length = 0) || decide (v.Kind = 4)) && (decide (v.L.length = 0) || decide (v.Kind = 5)) &&
  decide (v.S.size ≤ 64) && decide (v.I.length ≤ 16) && decide (v.L.length ≤ 16) && strsB v.L
theorem wire_ValidValue_eq (N : Nat) (v : Value) : wire_ValidValue N v = some (valueB v) := by
  simp only [wire_ValidValue, wire_ValidValue_J1, wire_ValidValue_J2, wire_ValidValue_J3, wire_ValidValue_J4, wire_ValidValue_J5, wire_ValidValue_J6, wire_ValidValue_J7, wire_ValidValue_J8, wire_ValidValue_J9, wire_VV_L1, valueB]
  generalize strsB v.L = q
  generalize sEq v.S ⟨#[]⟩ = z
  cases z <;> cases q <;> simp only [ite_someB, some_eqB, ite_eqT, if_true, if_false, Bool.false_eq_true, Bool.and_eq_true, Bool.or_eq_true, Bool.not_eq_true', decide_eq_true_eq, decide_eq_false_iff_not, Bool.and_false, Bool.and_true, Bool.or_true, Bool.or_false, Bool.true_or, Bool.false_or, Bool.not_true, Bool.not_false, and_false, false_and, or_false, false_or, Classical.not_not, true_and, and_true, iff_false, false_iff, not_false_eq_true, not_true_eq_false, true_or, or_true ] <;> omega
def intsE (a b : List Int) : Bool := eqL (fun x y => decide (x = y)) a b
def strsE (a b : List ByteArray) : Bool := eqL sEq a b
def refE (a b : Ref) : Bool := sEq a.Type_ b.Type_ && sEq a.Key b.Key
def refsE (a b : List Ref) : Bool := eqL refE a b
theorem intsE_iff {a b : List Int} : intsE a b = true ↔ a = b := eqL_iff (by simp)
theorem strsE_iff {a b : List ByteArray} : strsE a b = true ↔ a = b := eqL_iff (fun _ _ => sEq_iff')
theorem refE_iff (a b : Ref) : refE a b = true ↔ a = b := by
  obtain ⟨a1, a2⟩ := a
  obtain ⟨b1, b2⟩ := b
  simp [refE, sEq_iff']
theorem refsE_iff {a b : List Ref} : refsE a b = true ↔ a = b := eqL_iff refE_iff
theorem wire_same_int_eq (N : Nat) (a b : List Int) : wire_same_int N a b = some (intsE a b) :=
  eq_fun (L := wire_same_int_L1 b) a b _ (fun _ => rfl) (fun x xs v => by simp [wire_same_int_L1])
theorem ref1_SameInts_eq (N : Nat) (a b : List Int) : ref1_SameInts N a b = some (intsE a b) :=
  eq_fun (L := ref1_SameInts_L1 b) a b _ (fun _ => rfl) (fun x xs v => by simp [ref1_SameInts_L1])
theorem slices_Equal_int_eq (N : Nat) (a b : List Int) : slices_Equal_int N a b = some (intsE a b) :=
  eq_fun (L := slices_Equal_int_L1 b) a b _ (fun _ => rfl) (fun x xs v => by simp [slices_Equal_int_L1])
theorem wire_same_string_eq (N : Nat) (a b : List ByteArray) : wire_same_string N a b = some (strsE a b) :=
  eq_fun (L := wire_same_string_L1 b) a b _ (fun _ => rfl) (fun x xs v => by simp [wire_same_string_L1])
theorem ref1_SameStrings_eq (N : Nat) (a b : List ByteArray) : ref1_SameStrings N a b = some (strsE a b) :=
  eq_fun (L := ref1_SameStrings_L1 b) a b _ (fun _ => rfl) (fun x xs v => by simp [ref1_SameStrings_L1])
theorem slices_Equal_Ref_eq (N : Nat) (a b : List Ref) : slices_Equal_Ref N a b = some (refsE a b) :=
  eq_fun (L := slices_Equal_Ref_L1 b) a b _ (fun _ => rfl) (fun x xs v => by simp [slices_Equal_Ref_L1, refE])
theorem ref24_SameRefs_eq (N : Nat) (a b : List Ref) : ref24_SameRefs N a b = some (refsE a b) :=
  eq_fun (L := ref24_SameRefs_L1 b) a b _ (fun _ => rfl) (fun x xs v => by simp [ref24_SameRefs_L1, refE])
def valE (a b : Value) : Bool := decide (a.Kind = b.Kind) && decide (a.N = b.N) && sEq a.S b.S && intsE a.I b.I && strsE a.L b.L
theorem valE_iff (a b : Value) : valE a b = true ↔ a = b := by
  obtain ⟨a1, a2, a3, a4, a5⟩ := a
  obtain ⟨b1, b2, b3, b4, b5⟩ := b
  simp [valE, sEq_iff', intsE_iff, strsE_iff, and_assoc]
theorem wire_SameValue_eq (N : Nat) (a b : Value) : wire_SameValue N a b = some (valE a b) := by
  simp only [wire_SameValue, wire_same_int_eq, wire_same_string_eq, Option.bind_some, valE, ite_someB, some_eqB, ite_eqT, if_true, if_false, Bool.false_eq_true, Bool.and_eq_true, Bool.or_eq_true, Bool.not_eq_true', decide_eq_true_eq, decide_eq_false_iff_not, Bool.and_false, Bool.and_true, Bool.or_true, Bool.or_false, Bool.true_or, Bool.false_or, Bool.not_true, Bool.not_false, and_false, false_and, or_false, false_or, Classical.not_not, true_and, and_true, iff_false, false_iff, not_false_eq_true, not_true_eq_false, true_or, or_true ]
  all_goals grind
theorem ref1_SameValue_eq (N : Nat) (a b : Value) : ref1_SameValue N a b = some (valE a b) := by
  simp only [ref1_SameValue, ref1_SameInts_eq, ref1_SameStrings_eq, Option.bind_some, valE, ite_someB, some_eqB, ite_eqT, if_true, if_false, Bool.false_eq_true, Bool.and_eq_true, Bool.or_eq_true, Bool.not_eq_true', decide_eq_true_eq, decide_eq_false_iff_not, Bool.and_false, Bool.and_true, Bool.or_true, Bool.or_false, Bool.true_or, Bool.false_or, Bool.not_true, Bool.not_false, and_false, false_and, or_false, false_or, Classical.not_not, true_and, and_true, iff_false, false_iff, not_false_eq_true, not_true_eq_false, true_or, or_true ]
  all_goals grind
def nameB (s : ByteArray) : Bool := decide (1 ≤ s.size) && decide (s.size ≤ 32)
theorem turns_name_eq (N : Nat) (s : ByteArray) : turns_name N s = some (nameB s) := by
  simp only [turns_name, nameB, ite_someB, some_eqB, ite_eqT, if_true, if_false, Bool.false_eq_true, Bool.and_eq_true, Bool.or_eq_true, Bool.not_eq_true', decide_eq_true_eq, decide_eq_false_iff_not, Bool.and_false, Bool.and_true, Bool.or_true, Bool.or_false, Bool.true_or, Bool.false_or, Bool.not_true, Bool.not_false, and_false, false_and, or_false, false_or, Classical.not_not, true_and, and_true, iff_false, false_iff, not_false_eq_true, not_true_eq_false, true_or, or_true ] <;> omega
def numB (n : Int) : Bool := decide (0 ≤ n) && decide (n ≤ 1099511627776)
theorem turns_number_eq (N : Nat) (n : Int) : turns_number N n = some (numB n) := by
  simp only [turns_number, numB, ite_someB, some_eqB, ite_eqT, if_true, if_false, Bool.false_eq_true, Bool.and_eq_true, Bool.or_eq_true, Bool.not_eq_true', decide_eq_true_eq, decide_eq_false_iff_not, Bool.and_false, Bool.and_true, Bool.or_true, Bool.or_false, Bool.true_or, Bool.false_or, Bool.not_true, Bool.not_false, and_false, false_and, or_false, false_or, Classical.not_not, true_and, and_true, iff_false, false_iff, not_false_eq_true, not_true_eq_false, true_or, or_true ] <;> omega
def vrefB (r : Ref) : Bool := decide (1 ≤ r.Type_.size) && decide (r.Type_.size ≤ 32) && decide (r.Key.size ≤ 32)
theorem directory_ValidRef_eq (N : Nat) (r : Ref) : directory_ValidRef N r = some (vrefB r) := by
  simp only [directory_ValidRef, vrefB, ite_someB, some_eqB, ite_eqT, if_true, if_false, Bool.false_eq_true, Bool.and_eq_true, Bool.or_eq_true, Bool.not_eq_true', decide_eq_true_eq, decide_eq_false_iff_not, Bool.and_false, Bool.and_true, Bool.or_true, Bool.or_false, Bool.true_or, Bool.false_or, Bool.not_true, Bool.not_false, and_false, false_and, or_false, false_or, Classical.not_not, true_and, and_true, iff_false, false_iff, not_false_eq_true, not_true_eq_false, true_or, or_true ] <;> omega
theorem ref14_ValidRef_eq (N : Nat) (r : Ref) : ref14_ValidRef N r = some (vrefB r) := by
  simp only [ref14_ValidRef, vrefB, ite_someB, some_eqB, ite_eqT, if_true, if_false, Bool.false_eq_true, Bool.and_eq_true, Bool.or_eq_true, Bool.not_eq_true', decide_eq_true_eq, decide_eq_false_iff_not, Bool.and_false, Bool.and_true, Bool.or_true, Bool.or_false, Bool.true_or, Bool.false_or, Bool.not_true, Bool.not_false, and_false, false_and, or_false, false_or, Classical.not_not, true_and, and_true, iff_false, false_iff, not_false_eq_true, not_true_eq_false, true_or, or_true ] <;> omega
def pathB (l : List Int) : Bool := decide (l.length ≤ 8) && l.all numB
def idB (c : ByteArray) (s : Int) (p : List Int) : Bool := nameB c && decide (1 ≤ s) && decide (s ≤ 1099511627776) && pathB p
theorem any_not {α : Type} (p : α → Bool) (l : List α) : (l.any fun x => !p x) = !(l.all p) := by
  induction l with
  | nil => rfl
  | cons x l ih => simp [ih]
theorem cf_number (N : Nat) (l : List Int) : slices_ContainsFunc_int_turns_validID_1 N l = some (!(l.all numB)) := by
  have h := find_loop (L := slices_IndexFunc_int_turns_validID_1_L1 N) (turns_validID_1 N) (fun n => !numB n) (fun _ => rfl) (fun _ _ _ => rfl) l 0 (fun x _ => by simp [turns_validID_1, turns_number_eq])
  simp only [slices_ContainsFunc_int_turns_validID_1, slices_IndexFunc_int_turns_validID_1, h, Option.bind_some, findP_any, any_not]
theorem turns_validID_eq (N : Nat) (c : ByteArray) (s : Int) (p : List Int) : turns_validID N c s p = some (idB c s p) := by
  simp only [turns_validID, turns_name_eq, turns_number_eq, cf_number, Option.bind_some, idB, pathB, Bool.not_not]
  generalize nameB c = q
  generalize p.all numB = z
  simp only [numB]
  cases q <;> cases z <;> simp only [ite_someB, some_eqB, ite_eqT, if_true, if_false, Bool.false_eq_true, Bool.and_eq_true, Bool.or_eq_true, Bool.not_eq_true', decide_eq_true_eq, decide_eq_false_iff_not, Bool.and_false, Bool.and_true, Bool.or_true, Bool.or_false, Bool.true_or, Bool.false_or, Bool.not_true, Bool.not_false, and_false, false_and, or_false, false_or, Classical.not_not, true_and, and_true, iff_false, false_iff, not_false_eq_true, not_true_eq_false, true_or, or_true ] <;> omega
def argsB (l : List Value) : Bool := decide (l.length ≤ 4) && l.all fun v => valueB v && !decide (v.Kind = 0)
theorem cf_args (N : Nat) (l : List Value) : slices_ContainsFunc_Value_turns_validArgs_1 N l = some (!(l.all fun v => valueB v && !decide (v.Kind = 0))) := by
  have h := find_loop (L := slices_IndexFunc_Value_turns_validArgs_1_L1 N) (turns_validArgs_1 N) (fun v => !(valueB v && !decide (v.Kind = 0))) (fun _ => rfl) (fun _ _ _ => rfl) l 0 (fun x _ => by
    simp only [turns_validArgs_1, wire_ValidValue_eq, Option.bind_some]
    by_cases h : x.Kind = 0 <;> simp [h])
  simp only [slices_ContainsFunc_Value_turns_validArgs_1, slices_IndexFunc_Value_turns_validArgs_1, h, Option.bind_some, findP_any, any_not]
theorem turns_validArgs_eq (N : Nat) (l : List Value) : turns_validArgs N l = some (argsB l) := by
  simp only [turns_validArgs, cf_args, Option.bind_some, argsB, Bool.not_not]
  generalize (l.all fun v => valueB v && !decide (v.Kind = 0)) = z
  cases z <;> simp only [ite_someB, some_eqB, ite_eqT, if_true, if_false, Bool.false_eq_true, Bool.and_eq_true, Bool.or_eq_true, Bool.not_eq_true', decide_eq_true_eq, decide_eq_false_iff_not, Bool.and_false, Bool.and_true, Bool.or_true, Bool.or_false, Bool.true_or, Bool.false_or, Bool.not_true, Bool.not_false, and_false, false_and, or_false, false_or, Classical.not_not, true_and, and_true, iff_false, false_iff, not_false_eq_true, not_true_eq_false, true_or, or_true ] <;> omega
def reqB (r : Request) : Bool := idB r.Client r.Seq r.Path && vrefB r.Target && nameB r.Method && argsB r.Args && decide (r.Chain.length = r.Path.length) && r.Chain.all vrefB && numB r.Txn
theorem cf_chain (N : Nat) (l : List Ref) : slices_ContainsFunc_Ref_turns_ValidRequest_1 N l = some (!(l.all vrefB)) := by
  have h := find_loop (L := slices_IndexFunc_Ref_turns_ValidRequest_1_L1 N) (turns_ValidRequest_1 N) (fun n => !vrefB n) (fun _ => rfl) (fun _ _ _ => rfl) l 0 (fun x _ => by simp [turns_ValidRequest_1, directory_ValidRef_eq])
  simp only [slices_ContainsFunc_Ref_turns_ValidRequest_1, slices_IndexFunc_Ref_turns_ValidRequest_1, h, Option.bind_some, findP_any, any_not]
theorem turns_ValidRequest_eq (N : Nat) (r : Request) : turns_ValidRequest N r = some (reqB r) := by
  simp only [turns_ValidRequest, turns_validID_eq, directory_ValidRef_eq, turns_name_eq, turns_validArgs_eq, cf_chain, turns_number_eq, Option.bind_some, reqB]
  generalize r.Chain.all vrefB = z
  generalize idB r.Client r.Seq r.Path = b1
  generalize vrefB r.Target = b2
  generalize nameB r.Method = b3
  generalize argsB r.Args = b4
  generalize numB r.Txn = b5
  cases z <;> cases b1 <;> cases b2 <;> cases b3 <;> cases b4 <;> cases b5 <;> simp only [ite_someB, some_eqB, ite_eqT, if_true, if_false, Bool.false_eq_true, Bool.and_eq_true, Bool.or_eq_true, Bool.not_eq_true', decide_eq_true_eq, decide_eq_false_iff_not, Bool.and_false, Bool.and_true, Bool.or_true, Bool.or_false, Bool.true_or, Bool.false_or, Bool.not_true, Bool.not_false, and_false, false_and, or_false, false_or, Classical.not_not, true_and, and_true, iff_false, false_iff, not_false_eq_true, not_true_eq_false, true_or, or_true ] <;> omega
def repB (r : Reply) : Bool := idB r.Client r.Seq r.Path && decide (0 ≤ r.Err) && decide (r.Err ≤ 27) && valueB r.Value_ && (decide (r.Err = 0) || decide (r.Value_.Kind = 0))
theorem turns_ValidReply_eq (N : Nat) (r : Reply) : turns_ValidReply N r = some (repB r) := by
  simp only [turns_ValidReply, turns_validID_eq, wire_ValidValue_eq, Option.bind_some, repB]
  generalize idB r.Client r.Seq r.Path = b1
  generalize valueB r.Value_ = b2
  cases b1 <;> cases b2 <;> simp only [ite_someB, some_eqB, ite_eqT, if_true, if_false, Bool.false_eq_true, Bool.and_eq_true, Bool.or_eq_true, Bool.not_eq_true', decide_eq_true_eq, decide_eq_false_iff_not, Bool.and_false, Bool.and_true, Bool.or_true, Bool.or_false, Bool.true_or, Bool.false_or, Bool.not_true, Bool.not_false, and_false, false_and, or_false, false_or, Classical.not_not, true_and, and_true, iff_false, false_iff, not_false_eq_true, not_true_eq_false, true_or, or_true ] <;> omega
def sidB (r : Request) (c : ByteArray) (s : Int) (p : List Int) : Bool := sEq r.Client c && decide (r.Seq = s) && intsE r.Path p
theorem turns_SameID_eq (N : Nat) (r : Request) (c : ByteArray) (s : Int) (p : List Int) : turns_SameID N r c s p = some (sidB r c s p) := by
  simp only [turns_SameID, slices_Equal_int_eq, Option.bind_some, sidB]
  cases sEq r.Client c <;> by_cases h : r.Seq = s <;> simp [h]
theorem ref24_SameID_eq (N : Nat) (r : Request) (c : ByteArray) (s : Int) (p : List Int) : ref24_SameID N r c s p = some (sidB r c s p) := by
  simp only [ref24_SameID, ref1_SameInts_eq, Option.bind_some, sidB]
  cases sEq r.Client c <;> by_cases h : r.Seq = s <;> simp [h]
def descB (r c : Request) : Bool := sEq r.Client c.Client && decide (r.Seq = c.Seq) && decide (c.Path.length ≤ r.Path.length) && intsE (r.Path.take c.Path.length) c.Path
theorem slx_take {α β : Type} {l : List α} {n : Nat} {k : List α → Option β} (h : n ≤ l.length) : slx l 0 ((n : Nat) : Int) k = k (l.take n) := by
  unfold slx
  rw [if_pos ⟨by omega, by omega, by simp, by simpa using h⟩]
  simp
theorem turns_Descends_eq (N : Nat) (r c : Request) : turns_Descends N r c = some (descB r c) := by
  simp only [turns_Descends, descB]
  by_cases h : c.Path.length ≤ r.Path.length
  · have h' : ((c.Path.length : Nat) : Int) ≤ ((r.Path.length : Nat) : Int) := by omega
    simp only [slx_take h, slices_Equal_int_eq, Option.bind_some, h, h', decide_true, if_true]
    cases sEq r.Client c.Client <;> by_cases h : r.Seq = c.Seq <;> simp [h]
  · have h' : ¬ ((c.Path.length : Nat) : Int) ≤ ((r.Path.length : Nat) : Int) := by omega
    simp only [h, h', if_false, decide_false]
    cases sEq r.Client c.Client <;> by_cases h : r.Seq = c.Seq <;> simp [h]
end Go.Proofs.Ytmgpaicldmgckaa

set_option linter.unusedSimpArgs false
set_option linter.unusedVariables false
namespace Go.Proofs.Ytmgpaicldmgckaa
open Go Go.Proofs Go.Abs
def zQ : Request := Request.mk (⟨#[]⟩) 0 [] (Ref.mk (⟨#[]⟩) (⟨#[]⟩)) (⟨#[]⟩) [] [] 0
def zP : Reply := Reply.mk (⟨#[]⟩) 0 [] 0 (Value.mk 0 0 (⟨#[]⟩) [] [])
def zA : Actor := Actor.mk (Ref.mk (⟨#[]⟩) (⟨#[]⟩)) 0 []
def zT : Turn := Turn.mk zQ 0 zQ false false zP
def bdV (v : Value) : Prop := v.I.length ≤ 1000 ∧ v.L.length ≤ 1000
def bdQ (r : Request) : Prop := r.Path.length ≤ 1000 ∧ r.Args.length ≤ 1000 ∧ r.Chain.length ≤ 1000 ∧ ∀ v ∈ r.Args, bdV v
def bdP (r : Reply) : Prop := r.Path.length ≤ 1000 ∧ bdV r.Value_
def bdT (t : Turn) : Prop := bdQ t.Request_ ∧ bdQ t.Call ∧ bdP t.Reply_
def bdA (a : Actor) : Prop := a.Stack.length ≤ 1000 ∧ ∀ t ∈ a.Stack, bdT t
theorem clone_int {N : Nat} {l : List Int} (h : l.length ≤ 2000) : slices_Clone_int N l = some l := apn_of (by omega)
theorem clone_Ref {N : Nat} {l : List Ref} (h : l.length ≤ 2000) : slices_Clone_Ref N l = some l := apn_of (by omega)
theorem clone_string {N : Nat} {l : List ByteArray} (h : l.length ≤ 2000) : slices_Clone_string N l = some l := apn_of (by omega)
theorem clone_Value {N : Nat} {l : List Value} (h : l.length ≤ 2000) : slices_Clone_Value N l = some l := apn_of (by omega)
theorem clone_Turn {N : Nat} {l : List Turn} (h : l.length ≤ 2000) : slices_Clone_Turn N l = some l := apn_of (by omega)
theorem cloneValues_eq {N : Nat} {l : List Value} (h : l.length ≤ 1000) (hb : ∀ v ∈ l, bdV v) : turns_cloneValues N l = some l := by
  simp only [turns_cloneValues, clone_Value (show l.length ≤ 2000 by omega), Option.bind_some]
  rw [clone_loop (L := turns_cloneValues_L1 N) bdV (by
    intro m v l x hx hp
    simp only [turns_cloneValues_L1, gx_of hx, clone_int (show x.I.length ≤ 2000 by have := hp.1; omega), clone_string (show x.L.length ≤ 2000 by have := hp.2; omega), Option.bind_some]
    have e : l.set v (Value.mk x.Kind x.N x.S x.I x.L) = l := set_same hx
    rw [e]) (l.length - 0) 0 l (by omega) hb]
  rfl
theorem cloneRequest_eq {N : Nat} {r : Request} (h : bdQ r) : turns_cloneRequest N r = some r := by
  obtain ⟨h1, h2, h3, h4⟩ := h
  simp only [turns_cloneRequest, clone_int (show r.Path.length ≤ 2000 by omega), cloneValues_eq h2 h4, clone_Ref (show r.Chain.length ≤ 2000 by omega), Option.bind_some]
theorem cloneReply_eq {N : Nat} {r : Reply} (h : bdP r) : turns_cloneReply N r = some r := by
  obtain ⟨h1, h2, h3⟩ := h
  simp only [turns_cloneReply, clone_int (show r.Path.length ≤ 2000 by omega), clone_int (show r.Value_.I.length ≤ 2000 by omega), clone_string (show r.Value_.L.length ≤ 2000 by omega), Option.bind_some]
theorem cloneActor_eq {N : Nat} {a : Actor} (h : bdA a) : turns_cloneActor N a = some a := by
  obtain ⟨h1, h2⟩ := h
  simp only [turns_cloneActor, clone_Turn (show a.Stack.length ≤ 2000 by omega), Option.bind_some]
  rw [clone_loop (L := turns_cloneActor_L1 a N) bdT (by
    intro m v l x hx hp
    obtain ⟨p1, p2, p3⟩ := hp
    simp only [turns_cloneActor_L1, gx_of hx, cloneRequest_eq p1, cloneRequest_eq p2, cloneReply_eq p3, Option.bind_some]
    have e : l.set v (Turn.mk x.Request_ x.Calls x.Call x.Started x.Done x.Reply_) = l := set_same hx
    rw [e]) (a.Stack.length - 0) 0 a.Stack (by omega) h2]
  rfl
def reqE (a b : Request) : Bool := sidB a b.Client b.Seq b.Path && refE a.Target b.Target && sEq a.Method b.Method && eqL valE a.Args b.Args && refsE a.Chain b.Chain && decide (a.Txn = b.Txn)
theorem reqE_iff (a b : Request) : reqE a b = true ↔ a = b := by
  obtain ⟨a1, a2, a3, a4, a5, a6, a7, a8⟩ := a
  obtain ⟨b1, b2, b3, b4, b5, b6, b7, b8⟩ := b
  simp only [reqE, sidB, Bool.and_eq_true, sEq_iff', decide_eq_true_eq, intsE_iff, refE_iff, eqL_iff valE_iff, refsE_iff, Request.mk.injEq]
  constructor
  · rintro ⟨⟨⟨⟨⟨⟨⟨h1, h2⟩, h3⟩, h4⟩, h5⟩, h6⟩, h7⟩, h8⟩; exact ⟨h1, h2, h3, h4, h5, h6, h7, h8⟩
  · rintro ⟨h1, h2, h3, h4, h5, h6, h7, h8⟩; exact ⟨⟨⟨⟨⟨⟨⟨h1, h2⟩, h3⟩, h4⟩, h5⟩, h6⟩, h7⟩, h8⟩
theorem ref24_SameRequest_eq (N : Nat) (a b : Request) : ref24_SameRequest N a b = some (reqE a b) := by
  simp only [ref24_SameRequest, ref24_SameRequest_J1, ref24_SameRequest_J2, ref24_SameID_eq, ref24_SameRefs_eq, Option.bind_some, reqE]
  by_cases h : a.Args.length = b.Args.length
  · have h' : ((a.Args.length : Nat) : Int) = ((b.Args.length : Nat) : Int) := by omega
    have hl := eq_loop (L := ref24_SameRequest_L1 b N) b.Args valE (fun _ => rfl) (fun x xs v => by simp only [ref24_SameRequest_L1, ref1_SameValue_eq, Option.bind_some]) a.Args 0 (by omega)
    rw [List.drop_zero] at hl
    simp only [hl, h', eqL, h, decide_true, if_true, Bool.true_and, refE]
    cases sidB a b.Client b.Seq b.Path <;> cases (sEq a.Target.Type_ b.Target.Type_ && sEq a.Target.Key b.Target.Key) <;> cases sEq a.Method b.Method <;> cases refsE a.Chain b.Chain <;> by_cases ht : a.Txn = b.Txn <;> simp [ht]
  · have h' : ¬ ((a.Args.length : Nat) : Int) = ((b.Args.length : Nat) : Int) := by omega
    simp only [h', eqL, h, decide_false, if_false, Bool.false_and, Bool.and_false]
    cases sidB a b.Client b.Seq b.Path <;> cases (sEq a.Target.Type_ b.Target.Type_ && sEq a.Target.Key b.Target.Key) <;> cases sEq a.Method b.Method <;> simp
theorem turns_zeroRequest_eq (N : Nat) (r : Request) : turns_zeroRequest N r = some (reqE r zQ) := by
  obtain ⟨a1, a2, a3, ⟨a4, a4'⟩, a5, a6, a7, a8⟩ := r
  simp only [turns_zeroRequest, ite_someB, some_eqB, ite_eqT, if_true, if_false, Bool.false_eq_true, Bool.and_eq_true, Bool.or_eq_true, Bool.not_eq_true', decide_eq_true_eq, decide_eq_false_iff_not, Bool.and_false, Bool.and_true, Bool.or_true, Bool.or_false, Bool.true_or, Bool.false_or, Bool.not_true, Bool.not_false, and_false, false_and, or_false, false_or, Classical.not_not, true_and, and_true, iff_false, false_iff, not_false_eq_true, not_true_eq_false, true_or, or_true , reqE_iff, zQ, Request.mk.injEq, Ref.mk.injEq, sEq_iff', Int.natCast_eq_zero, List.length_eq_zero_iff]
  all_goals grind
def repE (a b : Reply) : Bool := sEq a.Client b.Client && decide (a.Seq = b.Seq) && intsE a.Path b.Path && decide (a.Err = b.Err) && valE a.Value_ b.Value_
theorem repE_iff (a b : Reply) : repE a b = true ↔ a = b := by
  obtain ⟨a1, a2, a3, a4, a5⟩ := a
  obtain ⟨b1, b2, b3, b4, b5⟩ := b
  simp [repE, sEq_iff', intsE_iff, valE_iff, and_assoc]
theorem turns_zeroReply_eq (N : Nat) (r : Reply) : turns_zeroReply N r = some (repE r zP) := by
  simp only [turns_zeroReply, wire_SameValue_eq, Option.bind_some, repE, zP]
  have e : intsE r.Path [] = decide (((r.Path.length : Nat) : Int) = 0) := by
    rw [bool_eqB, intsE_iff, decide_eq_true_eq]
    constructor
    · rintro h; rw [h]; rfl
    · intro h; exact List.eq_nil_of_length_eq_zero (by omega)
  rw [e]
  generalize ((r.Path.length : Nat) : Int) = pl
  cases sEq r.Client ⟨#[]⟩ <;> by_cases h1 : r.Seq = 0 <;> by_cases h2 : r.Err = 0 <;> by_cases h3 : pl = 0 <;> simp [h1, h2, h3]
def callB (self : Ref) (t : Turn) : Bool := reqB t.Call && decide (1 ≤ t.Calls) && sEq t.Call.Client t.Request_.Client && decide (t.Call.Seq = t.Request_.Seq) && decide (t.Call.Txn = t.Request_.Txn) &&
  intsE t.Call.Path (t.Request_.Path ++ [IntKind.i64.wrap (t.Calls - 1)]) && refsE t.Call.Chain (t.Request_.Chain ++ [self])
theorem turns_validCall_eq {N : Nat} {self : Ref} {t : Turn} (h : bdT t) : turns_validCall N self t = some (callB self t) := by
  obtain ⟨⟨h1, _, h3, _⟩, _⟩ := h
  simp only [turns_validCall, turns_validCall_J1, turns_validCall_J2, turns_ValidRequest_eq, clone_int (show t.Request_.Path.length ≤ 2000 by omega), clone_Ref (show t.Request_.Chain.length ≤ 2000 by omega), Option.bind_some,
    apx_of (show (t.Request_.Path.length + [IntKind.i64.wrap (t.Calls - 1)].length) * (7 + 1) ≤ 140737488355328 by simp; omega), apx_of (show (t.Request_.Chain.length + [self].length) * (31 + 1) ≤ 140737488355328 by simp; omega), slices_Equal_int_eq, slices_Equal_Ref_eq, callB]
  have e : decide (1 ≤ t.Calls) = !decide (t.Calls < 1) := by
    by_cases h : t.Calls < 1
    · have : ¬ 1 ≤ t.Calls := by omega
      simp [h, this]
    · have : 1 ≤ t.Calls := by omega
      simp [h, this]
  rw [e]
  generalize intsE t.Call.Path (t.Request_.Path ++ [IntKind.i64.wrap (t.Calls - 1)]) = b1
  generalize refsE t.Call.Chain (t.Request_.Chain ++ [self]) = b2
  generalize reqB t.Call = b3
  generalize sEq t.Call.Client t.Request_.Client = b4
  cases b3
  · simp
  · by_cases c1 : t.Calls < 1
    · simp [c1]
    · cases b4
      · simp [c1]
      · by_cases c2 : t.Call.Seq = t.Request_.Seq
        · by_cases c3 : t.Call.Txn = t.Request_.Txn
          · cases b1 <;> cases b2 <;> simp [c1, c2, c3]
          · simp [c1, c2, c3]
        · simp [c1, c2]
def bodyB (self : Ref) (t : Turn) : Bool := if reqE t.Call zQ = true then !t.Started && !t.Done && repE t.Reply_ zP
  else callB self t && (if t.Done = true then t.Started && repB t.Reply_ && sidB t.Call t.Reply_.Client t.Reply_.Seq t.Reply_.Path else repE t.Reply_ zP)
def headB (self : Ref) (t : Turn) : Bool := reqB t.Request_ && refE t.Request_.Target self && numB t.Calls
def turnB (self : Ref) (t : Turn) : Bool := headB self t && bodyB self t
theorem turns_validTurn_eq {N : Nat} {self : Ref} {t : Turn} (h : bdT t) : turns_validTurn N self t = some (turnB self t) := by
  simp only [turns_validTurn, turns_validTurn_J1, turns_validTurn_J2, turns_ValidRequest_eq, turns_number_eq, turns_zeroRequest_eq, turns_zeroReply_eq, turns_validCall_eq h, turns_ValidReply_eq, turns_SameID_eq, Option.bind_some, turnB, headB, bodyB]
  change (if reqB t.Request_ = true then if refE t.Request_.Target self = true then _ else _ else _) = _
  generalize reqB t.Request_ = b1
  generalize refE t.Request_.Target self = b2
  generalize numB t.Calls = b3
  generalize reqE t.Call zQ = b4
  generalize callB self t = b5
  generalize repE t.Reply_ zP = b6
  generalize repB t.Reply_ = b7
  generalize sidB t.Call t.Reply_.Client t.Reply_.Seq t.Reply_.Path = b8
  cases b1
  · simp
  cases b2
  · simp
  cases b3
  · simp
  cases b4
  · cases b5
    · simp
    · cases t.Done
      · simp
      · cases t.Started
        · simp
        · cases b7 <;> cases b8 <;> simp
  · cases t.Started
    · cases t.Done <;> simp
    · simp
def waitsB (t : Turn) : Bool := !(reqE t.Call zQ) && t.Started && !t.Done
theorem turns_running_eq (N : Nat) (t : Turn) : turns_running N t = some (reqE t.Call zQ) := by simp only [turns_running, turns_zeroRequest_eq, Option.bind_some]
theorem turns_waits_eq (N : Nat) (t : Turn) : turns_waits N t = some (waitsB t) := by
  simp only [turns_waits, turns_running_eq, Option.bind_some, waitsB]
  cases reqE t.Call zQ <;> cases t.Started <;> simp
def belowB : Option Turn → Turn → Bool
  | none, _ => true
  | some b, t => waitsB b && descB t.Request_ b.Call
def stackB (self : Ref) : Option Turn → List Turn → Bool
  | _, [] => true
  | p, t :: l => turnB self t && belowB p t && stackB self (some t) l
def prevT (l : List Turn) : Nat → Option Turn
  | 0 => none
  | v + 1 => l[v]?
theorem turns_Valid_L1_eq {N : Nat} {a : Actor} (h : bdA a) : ∀ (xs : List Turn) (v : Nat), a.Stack.drop v = xs → v ≤ a.Stack.length → turns_Valid_L1 N a xs v () = some (stackB a.Self (prevT a.Stack v) xs)
  | [], v, _, _ => rfl
  | x :: xs, v, hd, hv => by
    have hlt : v < a.Stack.length := by
      rcases Nat.lt_or_ge v a.Stack.length with h | h
      · exact h
      · rw [List.drop_eq_nil_of_le h] at hd; cases hd
    rw [List.drop_eq_getElem_cons hlt] at hd
    simp only [List.cons.injEq] at hd
    have hx : a.Stack[v]? = some x := by rw [List.getElem?_eq_getElem hlt, hd.1]
    have ih := turns_Valid_L1_eq (N := N) h xs (v + 1) hd.2 (by omega)
    have hb := h.2 x (List.mem_of_getElem? hx)
    have hp : prevT a.Stack (v + 1) = some x := hx
    rw [hp] at ih
    simp only [turns_Valid_L1, turns_Valid_J2, turns_validTurn_eq hb, Option.bind_some, ih, stackB]
    cases v with
    | zero =>
      simp only [prevT, belowB]
      cases turnB a.Self x <;> simp
    | succ v =>
      have hv' : v < a.Stack.length := by omega
      have e : IntKind.i64.wrap (((v + 1 : Nat) : Int) - 1) = ((v : Nat) : Int) := by rw [w64' (by omega) (by have := h.1; omega)]; omega
      have hy : a.Stack[v]? = some a.Stack[v] := List.getElem?_eq_getElem hv'
      have h0 : ¬ ((v + 1 : Nat) : Int) = 0 := by omega
      simp only [h0, if_false, e, gx_of hy, turns_waits_eq, turns_Descends_eq, Option.bind_some, prevT, hy, belowB]
      cases turnB a.Self x <;> cases waitsB a.Stack[v] <;> cases descB x.Request_ a.Stack[v].Call <;> simp
def actB (a : Actor) : Bool := vrefB a.Self && numB a.Index && decide (a.Stack.length ≤ 9) && stackB a.Self none a.Stack
theorem turns_Valid_eq {N : Nat} {a : Actor} (h : bdA a) : turns_Valid N a = some (actB a) := by
  have hl := turns_Valid_L1_eq (N := N) h a.Stack 0 rfl (by omega)
  simp only [turns_Valid, turns_Valid_J1, turns_Valid_J3, directory_ValidRef_eq, turns_number_eq, hl, Option.bind_some, actB, prevT]
  generalize stackB a.Self none a.Stack = b1
  generalize vrefB a.Self = b2
  generalize numB a.Index = b3
  cases b1 <;> cases b2 <;> cases b3 <;> simp only [ite_someB, some_eqB, ite_eqT, if_true, if_false, Bool.false_eq_true, Bool.and_eq_true, Bool.or_eq_true, Bool.not_eq_true', decide_eq_true_eq, decide_eq_false_iff_not, Bool.and_false, Bool.and_true, Bool.or_true, Bool.or_false, Bool.true_or, Bool.false_or, Bool.not_true, Bool.not_false, and_false, false_and, or_false, false_or, Classical.not_not, true_and, and_true, iff_false, false_iff, not_false_eq_true, not_true_eq_false, true_or, or_true ] <;> omega
end Go.Proofs.Ytmgpaicldmgckaa

set_option linter.unusedSimpArgs false
set_option linter.unusedVariables false
namespace Go.Proofs.Ytmgpaicldmgckaa
open Go Go.Proofs Go.Abs
theorem getLast_at {α : Type} {l : List α} (h : l ≠ []) : l[l.length - 1]? = some (l.getLast h) := by
  have : l.length - 1 < l.length := by have := List.length_pos_iff.2 h; omega
  rw [List.getElem?_eq_getElem this, List.getLast_eq_getElem]
def topB (a : Actor) : Turn × Bool := match a.Stack.getLast? with
  | some t => (t, true)
  | none => (zT, false)
theorem topB_nil {a : Actor} (h : a.Stack = []) : topB a = (zT, false) := by simp [topB, h]
theorem topB_cons {a : Actor} (h : a.Stack ≠ []) : topB a = (a.Stack.getLast h, true) := by simp [topB, List.getLast?_eq_some_getLast h]
theorem turns_top_eq {N : Nat} {a : Actor} (h : bdA a) : turns_top N a = some (topB a) := by
  have hb := h.1
  simp only [turns_top]
  by_cases h0 : a.Stack = []
  · rw [if_pos (by rw [h0]; rfl), topB_nil h0]; rfl
  · have hp := List.length_pos_iff.2 h0
    rw [if_neg (by omega), topB_cons h0, w64' (by omega) (by omega), show ((a.Stack.length : Nat) : Int) - 1 = ((a.Stack.length - 1 : Nat) : Int) from by omega, gx_of (getLast_at h0)]
theorem topB_bd {a : Actor} (h : bdA a) : bdT (topB a).1 := by
  by_cases h0 : a.Stack = []
  · rw [topB_nil h0]; simp [zT, zQ, zP, bdT, bdQ, bdP, bdV]
  · rw [topB_cons h0]; exact h.2 _ (List.getLast_mem h0)
def suspB (a : Actor) : Turn × Bool := ((topB a).1, (topB a).2 && !reqE (topB a).1.Call zQ)
theorem turns_suspended_eq {N : Nat} {a : Actor} (h : bdA a) : turns_suspended N a = some (suspB a) := by
  simp only [turns_suspended, turns_top_eq h, turns_running_eq, Option.bind_some, suspB]
  cases (topB a).2 <;> simp
def admB (a : Actor) (r : Request) : Int :=
  if (actB a && reqB r && refE r.Target a.Self) = true then
    if a.Stack.any (fun t => sidB t.Request_ r.Client r.Seq r.Path) = true then 7
    else if ((topB a).2 && !(waitsB (topB a).1 && descB r (topB a).1.Call)) = true then 12
    else if a.Stack.length = 9 then 5 else 0
  else 1
theorem actB_len {a : Actor} (h : actB a = true) : a.Stack.length ≤ 9 := by
  simp only [actB, Bool.and_eq_true, decide_eq_true_eq] at h; exact h.1.2
theorem cf_admits (N : Nat) (l : List Turn) (r : Request) : slices_ContainsFunc_Turn_turns_Admits_1 N l r.Client r.Seq r.Path r.Target.Type_ r.Target.Key r.Method r.Args r.Chain r.Txn = some (l.any fun t => sidB t.Request_ r.Client r.Seq r.Path) := by
  have h := find_loop (L := slices_IndexFunc_Turn_turns_Admits_1_L1 N r.Client r.Seq r.Path r.Target.Type_ r.Target.Key r.Method r.Args r.Chain r.Txn) (fun t => turns_Admits_1 N t r.Client r.Seq r.Path r.Target.Type_ r.Target.Key r.Method r.Args r.Chain r.Txn) (fun t => sidB t.Request_ r.Client r.Seq r.Path) (fun _ => rfl) (fun _ _ _ => rfl) l 0 (fun x _ => by simp [turns_Admits_1, turns_SameID_eq])
  simp only [slices_ContainsFunc_Turn_turns_Admits_1, slices_IndexFunc_Turn_turns_Admits_1, h, Option.bind_some, findP_any]
theorem turns_Admits_eq {N : Nat} {a : Actor} (h : bdA a) (r : Request) : turns_Admits N a r = some (admB a r) := by
  have hJ4 : turns_Admits_J4 N a r = some (if a.Stack.any (fun t => sidB t.Request_ r.Client r.Seq r.Path) = true then 7 else if ((topB a).2 && !(waitsB (topB a).1 && descB r (topB a).1.Call)) = true then 12 else if a.Stack.length = 9 then 5 else 0) := by
    have e9 : (((a.Stack.length : Nat) : Int) = 9) = (a.Stack.length = 9) := by apply propext; omega
    simp only [turns_Admits_J4, cf_admits, turns_top_eq h, turns_waits_eq, turns_Descends_eq, Option.bind_some, turns_Admits_J2, turns_Admits_J3, e9]
    cases a.Stack.any (fun t => sidB t.Request_ r.Client r.Seq r.Path) <;> cases (topB a).2 <;> cases waitsB (topB a).1 <;> cases descB r (topB a).1.Call <;> by_cases h9 : a.Stack.length = 9 <;> simp [h9]
  simp only [turns_Admits, turns_Valid_eq h, turns_ValidRequest_eq, Option.bind_some, turns_Admits_J1, hJ4, admB]
  change (if actB a = true then if reqB r = true then if (!refE r.Target a.Self) = true then _ else _ else _ else _) = _
  cases actB a <;> cases reqB r <;> cases refE r.Target a.Self <;> simp
def chgB (a : Actor) (l : List Turn) : Actor × Int := if a.Index = 1099511627776 then (zA, 5) else (Actor.mk a.Self (IntKind.i64.wrap (a.Index + 1)) l, 0)
theorem turns_changed_eq {N : Nat} {a : Actor} (h : bdA a) {k : Nat} (hk : k ≤ a.Stack.length) {l : List Turn} (hl : l.length ≤ 5) (hb : ∀ t ∈ l, bdT t) (hs : a.Stack.length ≤ 900) : turns_changed N a ((k : Nat) : Int) l = some (chgB a (a.Stack.take k ++ l)) := by
  simp only [turns_changed, chgB]
  by_cases hi : a.Index = 1099511627776
  · simp only [hi, if_true]; rfl
  · have hlt : (a.Stack.take k).length ≤ 900 := by rw [List.length_take]; omega
    have hbd : bdA (Actor.mk a.Self (IntKind.i64.wrap (a.Index + 1)) (a.Stack.take k ++ l)) := by
      refine ⟨by simp only [List.length_append]; omega, fun t ht => ?_⟩
      rcases List.mem_append.1 ht with ht | ht
      · exact h.2 t (List.mem_of_mem_take ht)
      · exact hb t ht
    simp only [hi, if_false]
    unfold slt
    rw [if_pos ⟨by omega, by simpa using hk⟩, Int.toNat_natCast]
    change apx 455 (a.Stack.take k) l _ = _
    rw [apx_of (by omega), cloneActor_eq hbd]
    rfl
theorem turns_replaced_eq {N : Nat} {a : Actor} (h : bdA a) (h0 : a.Stack ≠ []) {t : Turn} (hb : bdT t) (hs : a.Stack.length ≤ 900) : turns_replaced N a t = some (chgB a (a.Stack.dropLast ++ [t])) := by
  have hp := List.length_pos_iff.2 h0
  rw [turns_replaced, w64' (by omega) (by omega), show ((a.Stack.length : Nat) : Int) - 1 = ((a.Stack.length - 1 : Nat) : Int) from by omega, turns_changed_eq h (by omega) (by simp) (by simpa using hb) hs, List.dropLast_eq_take]
  rfl
theorem topB_some {a : Actor} (h : (topB a).2 = true) : a.Stack ≠ [] := by
  intro h0; rw [topB_nil h0] at h; cases h
theorem bdT_mk {q c : Request} {p : Reply} {n : Int} {s d : Bool} (h1 : bdQ q) (h2 : bdQ c) (h3 : bdP p) : bdT (Turn.mk q n c s d p) := ⟨h1, h2, h3⟩
def newT (r : Request) : Turn := Turn.mk r 0 zQ false false zP
theorem bd_newT {r : Request} (h : bdQ r) : bdT (newT r) := by simp [newT, bdT, zQ, zP, bdQ, bdP, bdV]; exact h
def begB (a : Actor) (r : Request) : Actor × Int := if admB a r = 0 then chgB a (a.Stack ++ [newT r]) else (zA, admB a r)
theorem adm0 {a : Actor} {r : Request} (h : admB a r = 0) : actB a = true ∧ reqB r = true ∧ refE r.Target a.Self = true := by
  unfold admB at h
  split at h
  · rename_i hc; simpa [Bool.and_eq_true, and_assoc] using hc
  · cases h
theorem turns_Begin_eq {N : Nat} {a : Actor} (h : bdA a) {r : Request} (hr : bdQ r) : turns_Begin N a r = some (begB a r) := by
  simp only [turns_Begin, turns_Admits_eq h, Option.bind_some, begB]
  by_cases h0 : admB a r = 0
  · have hlen := actB_len (adm0 h0).1
    rw [if_pos h0, if_pos h0]
    change (turns_changed N a ((a.Stack.length : Nat) : Int) [newT r]).bind _ = _
    rw [turns_changed_eq h (Nat.le_refl _) (by simp) (by simpa using bd_newT hr) (by omega), List.take_length]
    rfl
  · rw [if_neg h0, if_neg h0]; rfl
def endB (a : Actor) : Actor × Request × Int :=
  if actB a = true then
    if ((topB a).2 && reqE (topB a).1.Call zQ) = true then
      (if a.Index = 1099511627776 then (zA, zQ, 5) else (Actor.mk a.Self (IntKind.i64.wrap (a.Index + 1)) a.Stack.dropLast, (topB a).1.Request_, 0))
    else (zA, zQ, 6)
  else (zA, zQ, 1)
theorem turns_End_eq {N : Nat} {a : Actor} (h : bdA a) : turns_End N a = some (endB a) := by
  simp only [turns_End, turns_Valid_eq h, turns_top_eq h, turns_running_eq, Option.bind_some, turns_End_J1, endB]
  cases ha : actB a
  · first | rfl | (simp; done) | (simp; rfl) | (simp; exact ⟨rfl, rfl⟩) | (simp; exact ⟨rfl, rfl, rfl⟩)
  have hlen := actB_len ha
  cases ht : (topB a).2
  · first | rfl | (simp; done) | (simp; rfl) | (simp; exact ⟨rfl, rfl⟩) | (simp; exact ⟨rfl, rfl, rfl⟩)
  have h0 := topB_some ht
  have hp := List.length_pos_iff.2 h0
  cases hz : reqE (topB a).1.Call zQ
  · first | rfl | (simp; done) | (simp; rfl) | (simp; exact ⟨rfl, rfl⟩) | (simp; exact ⟨rfl, rfl, rfl⟩)
  simp only [Bool.not_true, Bool.false_eq_true, if_false, if_true, Bool.true_and, turns_End_J2]
  rw [w64' (by omega) (by omega), show ((a.Stack.length : Nat) : Int) - 1 = ((a.Stack.length - 1 : Nat) : Int) from by omega, turns_changed_eq h (by omega) (by simp) (by simp) (by omega), Option.bind_some, cloneRequest_eq (topB_bd h).1, List.append_nil, chgB, ← List.dropLast_eq_take]
  by_cases hi : a.Index = 1099511627776
  · simp only [hi, if_true]; first | rfl | (simp; done) | (simp; rfl) | (simp; exact ⟨rfl, rfl⟩) | (simp; exact ⟨rfl, rfl, rfl⟩)
  · simp [hi]
def nestB (t : Turn) (self target : Ref) (method : ByteArray) (args : List Value) : Request × Int :=
  if (reqB t.Request_ && numB t.Calls && vrefB self && vrefB target && nameB method && argsB args) = true then
    if t.Request_.Path.length = 8 ∨ t.Calls = 1099511627776 then (zQ, 5)
    else (Request.mk t.Request_.Client t.Request_.Seq (t.Request_.Path ++ [t.Calls]) target method args (t.Request_.Chain ++ [self]) t.Request_.Txn, 0)
  else (zQ, 1)
theorem reqB_len {r : Request} (h : reqB r = true) : r.Path.length ≤ 8 := by
  simp only [reqB, idB, pathB, Bool.and_eq_true, decide_eq_true_eq] at h; omega
theorem turns_Nested_eq {N : Nat} {t : Turn} (h : bdQ t.Request_) {self target : Ref} {method : ByteArray} {args : List Value} (ha : args.length ≤ 1000) (hv : ∀ v ∈ args, bdV v) : turns_Nested N t self target method args = some (nestB t self target method args) := by
  obtain ⟨h1, h2, h3, h4⟩ := h
  have hJ4 : turns_Nested_J4 t N self args target method = some (if t.Request_.Path.length = 8 ∨ t.Calls = 1099511627776 then (zQ, 5)
    else (Request.mk t.Request_.Client t.Request_.Seq (t.Request_.Path ++ [t.Calls]) target method args (t.Request_.Chain ++ [self]) t.Request_.Txn, 0)) := by
    have e8 : (((t.Request_.Path.length : Nat) : Int) = 8) = (t.Request_.Path.length = 8) := by apply propext; omega
    simp only [turns_Nested_J4, turns_Nested_J3, turns_Nested_J2, cloneRequest_eq ⟨h1, h2, h3, h4⟩, Option.bind_some, e8, cloneValues_eq ha hv]
    rw [apx_of (by simp only [List.length_cons, List.length_nil]; omega), apx_of (by simp only [List.length_cons, List.length_nil]; omega)]
    by_cases c1 : t.Request_.Path.length = 8
    · simp [c1]; rfl
    · by_cases c2 : t.Calls = 1099511627776
      · simp [c1, c2]; rfl
      · simp [c1, c2]
  simp only [turns_Nested, turns_ValidRequest_eq, turns_number_eq, directory_ValidRef_eq, turns_name_eq, turns_validArgs_eq, Option.bind_some, turns_Nested_J1, hJ4, nestB]
  cases reqB t.Request_ <;> cases numB t.Calls <;> cases vrefB self <;> cases vrefB target <;> cases nameB method <;> cases argsB args <;> first | rfl | (simp; done) | (simp; rfl) | (simp; exact ⟨rfl, rfl⟩) | (simp; exact ⟨rfl, rfl, rfl⟩)
theorem nestB_bd {t : Turn} (h : bdQ t.Request_) {self target : Ref} {method : ByteArray} {args : List Value} (ha : args.length ≤ 900) (hv : ∀ v ∈ args, bdV v) : bdQ (nestB t self target method args).1 := by
  have hz : bdQ zQ := by simp [zQ, bdQ]
  unfold nestB
  split
  · rename_i hc
    split
    · exact hz
    · simp only [Bool.and_eq_true] at hc
      have hl := reqB_len hc.1.1.1.1.1
      have hch : t.Request_.Chain.length = t.Request_.Path.length := by
        have := hc.1.1.1.1.1
        simp only [reqB, Bool.and_eq_true, decide_eq_true_eq] at this; exact this.1.1.2
      refine ⟨?_, ?_, ?_, hv⟩ <;> simp only [List.length_append, List.length_cons, List.length_nil] <;> omega
  · exact hz
def suspendB (a : Actor) (target : Ref) (method : ByteArray) (args : List Value) : Actor × Int :=
  if (actB a && vrefB target && nameB method && argsB args) = true then
    if ((topB a).2 && reqE (topB a).1.Call zQ) = true then
      let n := nestB (topB a).1 a.Self target method args
      if n.2 = 0 then chgB a (a.Stack.dropLast ++ [Turn.mk (topB a).1.Request_ (IntKind.i64.wrap ((topB a).1.Calls + 1)) n.1 (topB a).1.Started (topB a).1.Done (topB a).1.Reply_]) else (zA, n.2)
    else (zA, 6)
  else (zA, 1)
theorem turns_Suspend_eq {N : Nat} {a : Actor} (h : bdA a) {target : Ref} {method : ByteArray} {args : List Value} (ha : args.length ≤ 900) (hv : ∀ v ∈ args, bdV v) : turns_Suspend N a target method args = some (suspendB a target method args) := by
  simp only [turns_Suspend, turns_Valid_eq h, directory_ValidRef_eq, turns_name_eq, turns_validArgs_eq, Option.bind_some, turns_Suspend_J1, suspendB]
  cases hA : actB a
  · first | rfl | (simp; done) | (simp; rfl) | (simp; exact ⟨rfl, rfl⟩) | (simp; exact ⟨rfl, rfl, rfl⟩)
  have hlen := actB_len hA
  have hJ : turns_Suspend_J4 N a target method args = some (if ((topB a).2 && reqE (topB a).1.Call zQ) = true then
      let n := nestB (topB a).1 a.Self target method args
      if n.2 = 0 then chgB a (a.Stack.dropLast ++ [Turn.mk (topB a).1.Request_ (IntKind.i64.wrap ((topB a).1.Calls + 1)) n.1 (topB a).1.Started (topB a).1.Done (topB a).1.Reply_]) else (zA, n.2)
    else (zA, 6)) := by
    have hb := topB_bd h
    simp only [turns_Suspend_J4, turns_Suspend_J3, turns_Suspend_J2, turns_top_eq h, turns_running_eq, Option.bind_some, turns_Nested_eq hb.1 (show args.length ≤ 1000 by omega) hv]
    cases ht : (topB a).2
    · first | rfl | (simp; done) | (simp; rfl) | (simp; exact ⟨rfl, rfl⟩) | (simp; exact ⟨rfl, rfl, rfl⟩)
    cases hz : reqE (topB a).1.Call zQ
    · first | rfl | (simp; done) | (simp; rfl) | (simp; exact ⟨rfl, rfl⟩) | (simp; exact ⟨rfl, rfl, rfl⟩)
    simp only [Bool.not_true, Bool.false_eq_true, if_false, if_true, Bool.true_and]
    split
    · rw [turns_replaced_eq h (topB_some ht) (bdT_mk hb.1 (nestB_bd hb.1 ha hv) hb.2.2) (by omega)]; rfl
    · rfl
  simp only [hJ, if_true, Bool.true_and]
  cases vrefB target <;> cases nameB method <;> cases argsB args <;> first | rfl | (simp; done) | (simp; rfl) | (simp; exact ⟨rfl, rfl⟩) | (simp; exact ⟨rfl, rfl, rfl⟩)
def startB (a : Actor) (c : ByteArray) (s : Int) (p : List Int) : Actor × Int :=
  if actB a = true then
    let t := (topB a).1
    if ((topB a).2 && !reqE t.Call zQ && sidB t.Call c s p) = true then
      if t.Started = true then (zA, 7) else chgB a (a.Stack.dropLast ++ [Turn.mk t.Request_ t.Calls t.Call true t.Done t.Reply_])
    else (zA, 6)
  else (zA, 1)
theorem turns_StartCall_eq {N : Nat} {a : Actor} (h : bdA a) {c : ByteArray} {s : Int} {p : List Int} : turns_StartCall N a c s p = some (startB a c s p) := by
  have hb := topB_bd h
  simp only [turns_StartCall, turns_Valid_eq h, turns_suspended_eq h, turns_SameID_eq, Option.bind_some, turns_StartCall_J1, turns_StartCall_J2, startB, suspB]
  cases hA : actB a
  · first | rfl | (simp; done) | (simp; rfl) | (simp; exact ⟨rfl, rfl⟩) | (simp; exact ⟨rfl, rfl, rfl⟩)
  have hlen := actB_len hA
  cases ht : (topB a).2
  · first | rfl | (simp; done) | (simp; rfl) | (simp; exact ⟨rfl, rfl⟩) | (simp; exact ⟨rfl, rfl, rfl⟩)
  rw [turns_replaced_eq h (topB_some ht) (bdT_mk hb.1 hb.2.1 hb.2.2) (by omega)]
  cases reqE (topB a).1.Call zQ <;> cases sidB (topB a).1.Call c s p <;> cases (topB a).1.Started <;> first | rfl | (simp; done) | (simp; rfl) | (simp; exact ⟨rfl, rfl⟩) | (simp; exact ⟨rfl, rfl, rfl⟩)
def answerB (a : Actor) (r : Reply) : Actor × Int :=
  if (actB a && repB r) = true then
    let t := (topB a).1
    if ((topB a).2 && !reqE t.Call zQ && sidB t.Call r.Client r.Seq r.Path) = true then
      if (t.Started && !t.Done) = true then chgB a (a.Stack.dropLast ++ [Turn.mk t.Request_ t.Calls t.Call t.Started true r]) else (zA, 8)
    else (zA, 6)
  else (zA, 1)
theorem turns_Answer_eq {N : Nat} {a : Actor} (h : bdA a) {r : Reply} (hr : bdP r) : turns_Answer N a r = some (answerB a r) := by
  have hb := topB_bd h
  simp only [turns_Answer, turns_Valid_eq h, turns_ValidReply_eq, turns_suspended_eq h, turns_SameID_eq, Option.bind_some, turns_Answer_J1, turns_Answer_J5, turns_Answer_J4, turns_Answer_J3, turns_Answer_J2, answerB, suspB]
  cases hA : actB a
  · first | rfl | (simp; done) | (simp; rfl) | (simp; exact ⟨rfl, rfl⟩) | (simp; exact ⟨rfl, rfl, rfl⟩)
  have hlen := actB_len hA
  cases ht : (topB a).2
  · cases repB r <;> first | rfl | (simp; done) | (simp; rfl) | (simp; exact ⟨rfl, rfl⟩) | (simp; exact ⟨rfl, rfl, rfl⟩)
  rw [turns_replaced_eq h (topB_some ht) (bdT_mk hb.1 hb.2.1 hr) (by omega)]
  cases repB r <;> cases reqE (topB a).1.Call zQ <;> cases sidB (topB a).1.Call r.Client r.Seq r.Path <;> cases (topB a).1.Started <;> cases (topB a).1.Done <;> first | rfl | (simp; done) | (simp; rfl) | (simp; exact ⟨rfl, rfl⟩) | (simp; exact ⟨rfl, rfl, rfl⟩)
def againT (t : Turn) : Turn := Turn.mk t.Request_ t.Calls zQ false false zP
def resumeB (a : Actor) : Actor × Reply × Int :=
  if actB a = true then
    let t := (topB a).1
    if ((topB a).2 && !reqE t.Call zQ) = true then
      if t.Done = true then
        (if a.Index = 1099511627776 then (zA, zP, 5) else ((chgB a (a.Stack.dropLast ++ [againT t])).1, t.Reply_, 0))
      else (zA, zP, 12)
    else (zA, zP, 6)
  else (zA, zP, 1)
theorem bd_again {t : Turn} (h : bdT t) : bdT (againT t) := by simp [againT, bdT, zQ, zP, bdQ, bdP, bdV]; exact h.1
theorem turns_Resume_eq {N : Nat} {a : Actor} (h : bdA a) : turns_Resume N a = some (resumeB a) := by
  have hb := topB_bd h
  simp only [turns_Resume, turns_Valid_eq h, turns_suspended_eq h, Option.bind_some, resumeB, suspB]
  cases hA : actB a
  · first | rfl | (simp; done) | (simp; rfl) | (simp; exact ⟨rfl, rfl⟩) | (simp; exact ⟨rfl, rfl, rfl⟩)
  have hlen := actB_len hA
  cases ht : (topB a).2
  · first | rfl | (simp; done) | (simp; rfl) | (simp; exact ⟨rfl, rfl⟩) | (simp; exact ⟨rfl, rfl, rfl⟩)
  change (if true = true then if (true && !reqE (topB a).1.Call zQ) = true then if (topB a).1.Done = true then (turns_replaced N a (againT (topB a).1)).bind _ else _ else _ else _) = _
  rw [turns_replaced_eq h (topB_some ht) (bd_again hb) (by omega), Option.bind_some]
  simp only [chgB, cloneReply_eq hb.2.2, Option.bind_some]
  by_cases hi : a.Index = 1099511627776
  · cases reqE (topB a).1.Call zQ <;> cases (topB a).1.Done <;> first | (simp [hi]; done) | (simp [hi]; rfl) | (simp [hi]; exact ⟨rfl, rfl⟩) | (simp [hi]; exact ⟨rfl, rfl, rfl⟩)
  · cases reqE (topB a).1.Call zQ <;> cases (topB a).1.Done <;> first | (simp [hi]; done) | (simp [hi]; rfl) | (simp [hi]; exact ⟨rfl, rfl⟩) | (simp [hi]; exact ⟨rfl, rfl, rfl⟩)
def waitB (a : Actor) : Request × Bool := if (actB a && (topB a).2 && !reqE (topB a).1.Call zQ && !(topB a).1.Done) = true then ((topB a).1.Call, true) else (zQ, false)
theorem turns_Waiting_eq {N : Nat} {a : Actor} (h : bdA a) : turns_Waiting N a = some (waitB a) := by
  have hb := topB_bd h
  simp only [turns_Waiting, turns_Valid_eq h, turns_suspended_eq h, Option.bind_some, turns_Waiting_J1, turns_Waiting_J2, waitB, suspB, cloneRequest_eq hb.2.1]
  cases actB a <;> cases (topB a).2 <;> cases reqE (topB a).1.Call zQ <;> cases (topB a).1.Done <;> first | rfl | (simp; done) | (simp; rfl) | (simp; exact ⟨rfl, rfl⟩) | (simp; exact ⟨rfl, rfl, rfl⟩)
def newB (r : Ref) : Actor := if vrefB r = true then Actor.mk r 0 [] else zA
theorem turns_New_eq {N : Nat} {r : Ref} : turns_New N r = some (newB r) := by
  simp only [turns_New, directory_ValidRef_eq, Option.bind_some, newB]
  cases vrefB r <;> rfl
end Go.Proofs.Ytmgpaicldmgckaa

set_option linter.unusedSimpArgs false
set_option linter.unusedVariables false
namespace Go.Proofs.Ytmgpaicldmgckaa
open Go Go.Proofs Go.Abs
theorem awake24 : law24_awake 3 = some true := by decide +kernel
end Go.Proofs.Ytmgpaicldmgckaa

set_option linter.unusedSimpArgs false
set_option linter.unusedVariables false
namespace Go.Proofs.Ytmgpaicldmgckaa
open Go Go.Proofs Go.Abs
end Go.Proofs.Ytmgpaicldmgckaa

set_option linter.unusedSimpArgs false
set_option linter.unusedVariables false
namespace Go.Proofs.Ytmgpaicldmgckaa
open Go Go.Proofs Go.Abs
theorem reqE_refl (r : Request) : reqE r r = true := (reqE_iff r r).2 rfl
theorem repE_refl (r : Reply) : repE r r = true := (repE_iff r r).2 rfl
theorem refE_refl (r : Ref) : refE r r = true := (refE_iff r r).2 rfl
def lastO (p : Option Turn) (l : List Turn) : Option Turn := match l.getLast? with
  | some t => some t
  | none => p
theorem lastO_cons (p : Option Turn) (t : Turn) (l : List Turn) : lastO p (t :: l) = lastO (some t) l := by
  cases l with
  | nil => simp [lastO]
  | cons y l => simp only [lastO, List.getLast?_cons_cons]; rw [List.getLast?_eq_some_getLast (l := y :: l) (by simp)]
theorem stackB_snoc (self : Ref) : ∀ (l : List Turn) (p : Option Turn) (t : Turn), stackB self p (l ++ [t]) = (stackB self p l && (turnB self t && belowB (lastO p l) t))
  | [], p, t => by simp [stackB, lastO]
  | x :: l, p, t => by
    rw [List.cons_append, stackB, stackB_snoc self l (some x) t, stackB, lastO_cons]
    cases turnB self x && belowB p x <;> simp
structure ActV (a : Actor) : Prop where
  self : vrefB a.Self = true
  idx : numB a.Index = true
  len : a.Stack.length ≤ 9
  stack : stackB a.Self none a.Stack = true
theorem actB_iff (a : Actor) : actB a = true ↔ ActV a := by
  simp only [actB, Bool.and_eq_true, decide_eq_true_eq]
  constructor
  · rintro ⟨⟨⟨h1, h2⟩, h3⟩, h4⟩; exact ⟨h1, h2, h3, h4⟩
  · rintro ⟨h1, h2, h3, h4⟩; exact ⟨⟨⟨h1, h2⟩, h3⟩, h4⟩
theorem top_split {a : Actor} (h : (topB a).2 = true) : a.Stack = a.Stack.dropLast ++ [(topB a).1] := by
  have h0 := topB_some h
  rw [topB_cons h0]; exact (List.dropLast_concat_getLast h0).symm
theorem top_facts {a : Actor} (h : (topB a).2 = true) (v : ActV a) : stackB a.Self none a.Stack.dropLast = true ∧ turnB a.Self (topB a).1 = true ∧ belowB (lastO none a.Stack.dropLast) (topB a).1 = true := by
  have hs := v.stack
  rw [top_split h, stackB_snoc] at hs
  simp only [Bool.and_eq_true] at hs
  exact ⟨hs.1, hs.2.1, hs.2.2⟩
theorem numB_next {n : Int} (h : numB n = true) (hn : n ≠ 1099511627776) : numB (IntKind.i64.wrap (n + 1)) = true := by
  simp only [numB, Bool.and_eq_true, decide_eq_true_eq] at h ⊢
  rw [w64' (by omega) (by omega)]
  omega
structure After (a b : Actor) (more : Int) : Prop where
  val : ActV b
  bd : bdA b
  idx : b.Index = IntKind.i64.wrap (a.Index + 1)
  self : b.Self = a.Self
  len : ((b.Stack.length : Nat) : Int) = (a.Stack.length : Nat) + more
theorem chg_after {a : Actor} (v : ActV a) (hb : bdA a) (ht : (topB a).2 = true) {t : Turn} (hreq : t.Request_ = (topB a).1.Request_) (htb : turnB a.Self t = true) (hbt : bdT t) :
    ((chgB a (a.Stack.dropLast ++ [t])).2 = 0 → After a (chgB a (a.Stack.dropLast ++ [t])).1 0) ∧ ((chgB a (a.Stack.dropLast ++ [t])).2 ≠ 0 → (chgB a (a.Stack.dropLast ++ [t])).1 = zA) := by
  have hp := List.length_pos_iff.2 (topB_some ht)
  have hlen := v.len
  obtain ⟨f1, f2, f3⟩ := top_facts ht v
  unfold chgB
  split
  · simp
  · rename_i hi
    refine ⟨fun _ => ⟨⟨v.self, numB_next v.idx hi, by simp; omega, ?_⟩, ⟨by simp; omega, ?_⟩, rfl, rfl, by simp; omega⟩, fun h => absurd rfl h⟩
    · rw [stackB_snoc]
      have : belowB (lastO none a.Stack.dropLast) t = belowB (lastO none a.Stack.dropLast) (topB a).1 := by
        cases lastO none a.Stack.dropLast with
        | none => rfl
        | some b => simp only [belowB, hreq]
      rw [f1, htb, this, f3]; rfl
    · intro x hx
      rcases List.mem_append.1 hx with hx | hx
      · exact hb.2 x (List.dropLast_subset _ hx)
      · rw [List.mem_singleton.1 hx]; exact hbt
theorem head_of {self : Ref} {t : Turn} (h : turnB self t = true) : headB self t = true ∧ bodyB self t = true := by
  simpa [turnB, Bool.and_eq_true] using h
theorem client_pos {r : Request} (h : reqB r = true) : r.Client ≠ ⟨#[]⟩ := by
  intro e
  simp only [reqB, idB, nameB, Bool.and_eq_true, decide_eq_true_eq] at h
  have := h.1.1.1.1.1.1.1.1.1.1
  rw [e] at this
  exact absurd this (by decide)
theorem notZ {r : Request} (h : reqB r = true) : reqE r zQ = false := by
  cases hz : reqE r zQ
  · rfl
  · have := (reqE_iff r zQ).1 hz
    exact absurd (by rw [this]; rfl) (client_pos h)
theorem lastO_none (l : List Turn) : lastO none l = l.getLast? := by
  unfold lastO; cases l.getLast? <;> rfl
theorem beg_after {a : Actor} {r : Request} (v : ActV a) (hb : bdA a) (hr : bdQ r) :
    ((begB a r).2 = 0 → After a (begB a r).1 1) ∧ ((begB a r).2 ≠ 0 → (begB a r).1 = zA) := by
  unfold begB
  split
  · rename_i h0
    obtain ⟨c1, c2, c3⟩ := adm0 h0
    have hlen := v.len
    unfold admB at h0
    rw [if_pos (by rw [c1, c2, c3]; rfl)] at h0
    split at h0
    · cases h0
    split at h0
    · cases h0
    split at h0
    · cases h0
    rename_i n1 n2 n3
    unfold chgB
    split
    · simp
    rename_i hi
    refine ⟨fun _ => ⟨⟨v.self, numB_next v.idx hi, by simp; omega, ?_⟩, ⟨by simp; omega, ?_⟩, rfl, rfl, by simp⟩, fun h => absurd rfl h⟩
    · simp only
      rw [stackB_snoc, v.stack]
      have ht : turnB a.Self (newT r) = true := by
        have : reqE zQ zQ = true := reqE_refl zQ
        have h2 : repE zP zP = true := repE_refl zP
        simp only [turnB, headB, bodyB, newT, c2, c3, this, h2]; rfl
      rw [ht, lastO_none]
      cases hl : a.Stack.getLast? with
      | none => rfl
      | some b =>
        have htop : topB a = (b, true) := by simp [topB, hl]
        rw [htop] at n2
        simp only [Bool.true_and, Bool.not_eq_true', Bool.not_eq_false', Bool.not_eq_true, Bool.not_eq_false] at n2
        simpa [belowB, newT] using n2
    · intro x hx
      rcases List.mem_append.1 hx with hx | hx
      · exact hb.2 x hx
      · rw [List.mem_singleton.1 hx]; exact bd_newT hr
  · rename_i h0
    exact ⟨fun h => absurd h h0, fun _ => rfl⟩
theorem numB_iff (n : Int) : numB n = true ↔ 0 ≤ n ∧ n ≤ 1099511627776 := by simp [numB]
theorem nest_valid {t : Turn} {self target : Ref} {m : ByteArray} {args : List Value} (h : (nestB t self target m args).2 = 0) :
    reqB t.Request_ = true ∧ numB t.Calls = true ∧ t.Calls ≠ 1099511627776 ∧ reqB (nestB t self target m args).1 = true ∧
    (nestB t self target m args).1 = Request.mk t.Request_.Client t.Request_.Seq (t.Request_.Path ++ [t.Calls]) target m args (t.Request_.Chain ++ [self]) t.Request_.Txn := by
  unfold nestB at h ⊢
  split at h
  · rename_i hc
    split at h
    · cases h
    · rename_i hn
      rw [if_pos hc, if_neg hn]
      simp only [Bool.and_eq_true] at hc
      obtain ⟨⟨⟨⟨⟨c1, c2⟩, c3⟩, c4⟩, c5⟩, c6⟩ := hc
      simp only [not_or] at hn
      refine ⟨c1, c2, hn.2, ?_, rfl⟩
      have hl := reqB_len c1
      simp only [reqB, idB, pathB, Bool.and_eq_true, decide_eq_true_eq] at c1 ⊢
      obtain ⟨⟨⟨⟨⟨⟨d1, d2⟩, d3⟩, d4⟩, d5⟩, d6⟩, d7⟩ := c1
      obtain ⟨⟨⟨e1, e2⟩, e3⟩, e4, e5⟩ := d1
      refine ⟨⟨⟨⟨⟨⟨⟨⟨⟨e1, e2⟩, e3⟩, ?_, ?_⟩, c4⟩, c5⟩, c6⟩, ?_⟩, ?_⟩, d7⟩
      · simp only [List.length_append, List.length_cons, List.length_nil]; omega
      · simp [List.all_append, e5, c2]
      · simp only [List.length_append, List.length_cons, List.length_nil]; omega
      · simp [List.all_append, d6, c3]
  · cases h
theorem suspend_after {a : Actor} {target : Ref} {m : ByteArray} {args : List Value} (v : ActV a) (hb : bdA a) (ha : args.length ≤ 900) (hv : ∀ x ∈ args, bdV x) :
    ((suspendB a target m args).2 = 0 → After a (suspendB a target m args).1 0) ∧ ((suspendB a target m args).2 ≠ 0 → (suspendB a target m args).1 = zA) := by
  unfold suspendB
  split
  · split
    · rename_i hc
      simp only [Bool.and_eq_true] at hc
      obtain ⟨ht, hz⟩ := hc
      have hbt := topB_bd hb
      dsimp only
      split
      · rename_i hn
        obtain ⟨c1, c2, c3, c4, c5⟩ := nest_valid hn
        obtain ⟨f1, f2, f3⟩ := top_facts ht v
        obtain ⟨g1, g2⟩ := head_of f2
        refine chg_after v hb ht (by rfl) ?_ (bdT_mk hbt.1 (nestB_bd hbt.1 ha hv) hbt.2.2)
        simp only [headB, Bool.and_eq_true] at g1
        rw [bodyB, if_pos hz] at g2
        simp only [Bool.and_eq_true, Bool.not_eq_true'] at g2
        have hcal := (numB_iff _).1 c2
        have hw : IntKind.i64.wrap ((topB a).1.Calls + 1) = (topB a).1.Calls + 1 := w64' (by omega) (by omega)
        have hw2 : IntKind.i64.wrap ((topB a).1.Calls + 1 - 1) = (topB a).1.Calls := by rw [w64' (by omega) (by omega)]; omega
        rw [hw]
        simp only [turnB, headB, bodyB, callB, notZ c4, g1.1.1, g1.1.2, (numB_iff _).2 (show 0 ≤ (topB a).1.Calls + 1 ∧ (topB a).1.Calls + 1 ≤ 1099511627776 by omega), g2.1.1, g2.1.2, g2.2, c4, hw2,
          decide_eq_true (show 1 ≤ (topB a).1.Calls + 1 by omega), Bool.true_and, Bool.and_true, Bool.false_eq_true, if_false]
        simp only [c5, sEq_refl, intsE_iff.2 rfl, refsE_iff.2 rfl, decide_true, Bool.and_self]
      · rename_i hn
        exact ⟨fun h => absurd h hn, fun _ => rfl⟩
    · exact ⟨(fun h => by cases h), fun _ => rfl⟩
  · exact ⟨(fun h => by cases h), fun _ => rfl⟩
theorem start_after {a : Actor} {c : ByteArray} {s : Int} {p : List Int} (v : ActV a) (hb : bdA a) :
    ((startB a c s p).2 = 0 → After a (startB a c s p).1 0) ∧ ((startB a c s p).2 ≠ 0 → (startB a c s p).1 = zA) := by
  unfold startB
  split
  · dsimp only
    split
    · rename_i hc
      simp only [Bool.and_eq_true, Bool.not_eq_true'] at hc
      obtain ⟨⟨ht, hz⟩, hs⟩ := hc
      have hbt := topB_bd hb
      split
      · exact ⟨(fun h => by cases h), fun _ => rfl⟩
      · rename_i hst
        obtain ⟨f1, f2, f3⟩ := top_facts ht v
        obtain ⟨g1, g2⟩ := head_of f2
        refine chg_after v hb ht (by rfl) ?_ (bdT_mk hbt.1 hbt.2.1 hbt.2.2)
        rw [bodyB, if_neg (by rw [hz]; simp)] at g2
        simp only [Bool.and_eq_true] at g2
        have hd : (topB a).1.Done = false := by
          cases hd : (topB a).1.Done
          · rfl
          · have := g2.2
            rw [hd, if_pos rfl] at this
            simp only [Bool.and_eq_true] at this
            exact absurd this.1.1 hst
        have g3 := g2.2
        rw [hd, if_neg (by simp)] at g3
        have g4 : headB a.Self (Turn.mk (topB a).1.Request_ (topB a).1.Calls (topB a).1.Call true (topB a).1.Done (topB a).1.Reply_) = true := g1
        have g5 : callB a.Self (Turn.mk (topB a).1.Request_ (topB a).1.Calls (topB a).1.Call true (topB a).1.Done (topB a).1.Reply_) = true := g2.1
        simp only [turnB, bodyB, g4, g5]
        simp only [hz, hd, g3, Bool.false_eq_true, if_false, Bool.and_self]
    · exact ⟨(fun h => by cases h), fun _ => rfl⟩
  · exact ⟨(fun h => by cases h), fun _ => rfl⟩
theorem answer_after {a : Actor} {r : Reply} (v : ActV a) (hb : bdA a) (hr : bdP r) :
    ((answerB a r).2 = 0 → After a (answerB a r).1 0) ∧ ((answerB a r).2 ≠ 0 → (answerB a r).1 = zA) := by
  unfold answerB
  split
  · rename_i hcc
    simp only [Bool.and_eq_true] at hcc
    dsimp only
    split
    · rename_i hc
      simp only [Bool.and_eq_true, Bool.not_eq_true'] at hc
      obtain ⟨⟨ht, hz⟩, hs⟩ := hc
      have hbt := topB_bd hb
      split
      · rename_i hst
        simp only [Bool.and_eq_true, Bool.not_eq_true'] at hst
        obtain ⟨f1, f2, f3⟩ := top_facts ht v
        obtain ⟨g1, g2⟩ := head_of f2
        refine chg_after v hb ht (by rfl) ?_ (bdT_mk hbt.1 hbt.2.1 hr)
        rw [bodyB, if_neg (by rw [hz]; simp)] at g2
        simp only [Bool.and_eq_true] at g2
        have g4 : headB a.Self (Turn.mk (topB a).1.Request_ (topB a).1.Calls (topB a).1.Call (topB a).1.Started true r) = true := g1
        have g5 : callB a.Self (Turn.mk (topB a).1.Request_ (topB a).1.Calls (topB a).1.Call (topB a).1.Started true r) = true := g2.1
        simp only [turnB, bodyB, g4, g5]
        simp only [hz, hst.1, hcc.2, hs, Bool.false_eq_true, if_false, if_true, Bool.and_self]
      · exact ⟨(fun h => by cases h), fun _ => rfl⟩
    · exact ⟨(fun h => by cases h), fun _ => rfl⟩
  · exact ⟨(fun h => by cases h), fun _ => rfl⟩
theorem resume_after {a : Actor} (v : ActV a) (hb : bdA a) :
    ((resumeB a).2.2 = 0 → After a (resumeB a).1 0) ∧ ((resumeB a).2.2 ≠ 0 → (resumeB a).1 = zA) := by
  unfold resumeB
  split
  · dsimp only
    split
    · rename_i hc
      simp only [Bool.and_eq_true, Bool.not_eq_true'] at hc
      obtain ⟨ht, hz⟩ := hc
      have hbt := topB_bd hb
      split
      · split
        · exact ⟨(fun h => by cases h), fun _ => rfl⟩
        · rename_i hi
          obtain ⟨f1, f2, f3⟩ := top_facts ht v
          obtain ⟨g1, g2⟩ := head_of f2
          have hh := chg_after (t := againT (topB a).1) v hb ht (by rfl) (by
            have g4 : headB a.Self (againT (topB a).1) = true := g1
            have h1 : reqE zQ zQ = true := reqE_refl zQ
            have h2 : repE zP zP = true := repE_refl zP
            rw [turnB, g4, bodyB, if_pos (show reqE (againT (topB a).1).Call zQ = true from h1)]
            simp only [againT, h2]; rfl) (bd_again hbt)
          refine ⟨fun _ => hh.1 ?_, fun h => absurd rfl h⟩
          rw [chgB, if_neg hi]
      · exact ⟨(fun h => by cases h), fun _ => rfl⟩
    · exact ⟨(fun h => by cases h), fun _ => rfl⟩
  · exact ⟨(fun h => by cases h), fun _ => rfl⟩
theorem end_after {a : Actor} (v : ActV a) (hb : bdA a) :
    ((endB a).2.2 = 0 → After a (endB a).1 (-1)) ∧ ((endB a).2.2 ≠ 0 → (endB a).1 = zA) := by
  unfold endB
  split
  · split
    · rename_i hc
      simp only [Bool.and_eq_true] at hc
      obtain ⟨ht, hz⟩ := hc
      split
      · exact ⟨(fun h => by cases h), fun _ => rfl⟩
      · rename_i hi
        have hp := List.length_pos_iff.2 (topB_some ht)
        have hlen := v.len
        obtain ⟨f1, f2, f3⟩ := top_facts ht v
        exact ⟨fun _ => ⟨⟨v.self, numB_next v.idx hi, by simp; omega, f1⟩, ⟨by simp; omega, fun x hx => hb.2 x (List.dropLast_subset _ hx)⟩, rfl, rfl, by simp; omega⟩, fun h => absurd rfl h⟩
    · exact ⟨(fun h => by cases h), fun _ => rfl⟩
  · exact ⟨(fun h => by cases h), fun _ => rfl⟩
end Go.Proofs.Ytmgpaicldmgckaa

set_option linter.unusedSimpArgs false
set_option linter.unusedVariables false
namespace Go.Proofs.Ytmgpaicldmgckaa
open Go Go.Proofs Go.Abs
abbrev RecT := (ByteArray × ByteArray × Int × List Turn × List Request × Int) → Option Bool
abbrev reqs (a : Actor) : List Request := a.Stack.map (·.Request_)
structure PlayI (me : Ref) (a : Actor) (n : Nat) : Prop where
  v : ActV a
  bd : bdA a
  own : a.Self = me
  idx : 0 ≤ a.Index ∧ a.Index ≤ n
theorem call_pos {self : Ref} {t : Turn} (ht : turnB self t = true) (hz : reqE t.Call zQ = false) : callB self t = true ∧ reqB t.Call = true ∧ t.Call.Seq ≠ 0 ∧ t.Call.Client = t.Request_.Client ∧ t.Call.Seq = t.Request_.Seq ∧ t.Call.Path.length = t.Request_.Path.length + 1 := by
  have hb := (head_of ht).2
  rw [bodyB, if_neg (by rw [hz]; simp)] at hb
  simp only [Bool.and_eq_true] at hb
  have hc := hb.1
  have hc0 := hc
  simp only [callB, Bool.and_eq_true, decide_eq_true_eq, sEq_iff', intsE_iff] at hc
  obtain ⟨⟨⟨⟨⟨⟨c1, c2⟩, c3⟩, c4⟩, c5⟩, c6⟩, c7⟩ := hc
  refine ⟨hc0, c1, ?_, c3, c4, by rw [c6]; simp⟩
  simp only [reqB, idB, Bool.and_eq_true, decide_eq_true_eq] at c1
  have := c1.1.1.1.1.1.1.1.1.2
  omega
def runs (l : List Turn) : Nat := (l.filter fun t => decide (t.Call.Seq = 0)).length
theorem runs_cons (t : Turn) (l : List Turn) : runs (t :: l) = (if t.Call.Seq = 0 then 1 else 0) + runs l := by
  unfold runs
  rw [List.filter_cons]
  by_cases h : t.Call.Seq = 0
  · simp [h]; omega
  · simp [h]
theorem runs_le (self : Ref) : ∀ (l : List Turn) (p : Option Turn), stackB self p l = true → runs l ≤ 1
  | [], p, _ => by simp [runs]
  | [t], p, _ => by rw [runs_cons]; simp only [runs]; split <;> simp
  | t :: u :: l, p, h => by
    rw [stackB] at h
    simp only [Bool.and_eq_true] at h
    have ih := runs_le self (u :: l) (some t) h.2
    have hb := h.2
    rw [stackB] at hb
    simp only [Bool.and_eq_true, belowB, waitsB, Bool.not_eq_true'] at hb
    have hz := hb.1.2.1.1.1
    have := (call_pos h.1.1 hz).2.2.1
    rw [runs_cons, if_neg this]
    omega
theorem runs_loop (k : Int → Option Bool) : ∀ (xs : List Turn) (v n : Nat), n + xs.length ≤ 1000 → law24_TurnsPlays_L2 k xs v ((n : Nat) : Int) = k ((n + runs xs : Nat) : Int)
  | [], v, n, _ => by simp [law24_TurnsPlays_L2, runs]
  | x :: xs, v, n, h => by
    simp only [List.length_cons] at h
    rw [law24_TurnsPlays_L2, runs_cons]
    by_cases hx : x.Call.Seq = 0
    · have hw : IntKind.i64.wrap (((n : Nat) : Int) + 1) = ((n + 1 : Nat) : Int) := by rw [w64' (by omega) (by omega)]; omega
      rw [if_pos hx, if_pos hx, hw, runs_loop k xs (v + 1) (n + 1) (by omega)]
      congr 2; omega
    · rw [if_neg hx, if_neg hx, runs_loop k xs (v + 1) n (by omega)]
      congr 2; omega
theorem round_end {self : Ref} {b : Actor} {n : Nat} (P : PlayI self b n) (hn : n ≤ 1000) (rec : RecT) : law24_TurnsPlays_J10 3 (reqs b) rec self b.Self.Type_ b.Self.Key b.Index b.Stack b.Index = rec (b.Self.Type_, b.Self.Key, b.Index, b.Stack, reqs b, b.Index) := by
  have hl := P.v.len
  unfold law24_TurnsPlays_J10
  change (turns_Valid 3 b).bind _ = _
  rw [turns_Valid_eq P.bd, (actB_iff b).2 P.v, Option.bind_some, if_pos rfl, if_pos rfl, if_pos (by simp [reqs])]
  have hs : (sEq b.Self.Type_ self.Type_ && sEq b.Self.Key self.Key) = true := by rw [P.own]; exact refE_refl self
  simp only [hs, Bool.not_true, law24_TurnsPlays_J7, Bool.false_eq_true, if_false, law24_TurnsPlays_J9]
  have := runs_loop (law24_TurnsPlays_J8 rec b.Self.Type_ b.Self.Key b.Index b.Stack (reqs b) b.Index) b.Stack 0 0 (by omega)
  have h0 : ((0 : Nat) : Int) = 0 := rfl
  rw [h0] at this
  rw [this]
  have hr := runs_le b.Self b.Stack none P.v.stack
  simp only [law24_TurnsPlays_J8]
  rw [if_neg (by omega)]
theorem act_end {self : Ref} {a b : Actor} {n : Nat} (P : PlayI self a n) (hn : n ≤ 900) (rec : RecT) (e more : Int) (op : List Request) (h0 : e = 0 → After a b more ∧ op = reqs b) (h1 : e ≠ 0 → op = reqs a)
    (hrec : ∀ c, PlayI self c (n + 1) → rec (c.Self.Type_, c.Self.Key, c.Index, c.Stack, reqs c, c.Index) = some true) :
    law24_TurnsPlays_J11 3 rec self a.Index a.Self.Type_ a.Self.Key a.Index a.Stack b.Self.Type_ b.Self.Key b.Index b.Stack op e = some true := by
  unfold law24_TurnsPlays_J11
  have hi := P.idx
  by_cases he : e = 0
  · obtain ⟨A, ho⟩ := h0 he
    have hw : IntKind.i64.wrap (a.Index + 1) = a.Index + 1 := w64' (by omega) (by omega)
    have hb : PlayI self b (n + 1) := ⟨A.val, A.bd, by rw [A.self, P.own], by rw [A.idx, hw]; omega⟩
    rw [if_pos he, ho, ← A.idx, round_end hb (by omega)]
    exact hrec b hb
  · have hp : PlayI self a (n + 1) := ⟨P.v, P.bd, P.own, by omega⟩
    rw [if_neg he, h1 he, round_end hp (by omega)]
    exact hrec a hp
theorem reqs_top {a : Actor} (h : (topB a).2 = true) {t : Turn} (ht : t.Request_ = (topB a).1.Request_) : (a.Stack.dropLast ++ [t]).map (·.Request_) = reqs a := by
  have := top_split h
  conv => rhs; rw [reqs, this]
  simp [ht]
theorem chg_stack {a : Actor} {l : List Turn} (h : (chgB a l).2 = 0) : (chgB a l).1.Stack = l := by
  unfold chgB at h ⊢
  split at h
  · cases h
  · rename_i hi; rw [if_neg hi]
theorem suspend_reqs {a : Actor} {target : Ref} {m : ByteArray} {args : List Value} (h : (suspendB a target m args).2 = 0) : reqs (suspendB a target m args).1 = reqs a := by
  unfold suspendB at h ⊢
  split at h
  · rename_i h1
    rw [if_pos h1]
    split at h
    · rename_i h2
      rw [if_pos h2]
      dsimp only at h ⊢
      split at h
      · rename_i h3
        rw [if_pos h3]
        simp only [Bool.and_eq_true] at h2
        rw [reqs, chg_stack h]
        exact reqs_top h2.1 rfl
      · rename_i h3; exact absurd h h3
    · cases h
  · cases h
theorem start_reqs {a : Actor} {c : ByteArray} {s : Int} {p : List Int} (h : (startB a c s p).2 = 0) : reqs (startB a c s p).1 = reqs a := by
  unfold startB at h ⊢
  split at h
  · rename_i h1
    rw [if_pos h1]
    dsimp only at h ⊢
    split at h
    · rename_i h2
      rw [if_pos h2]
      split at h
      · cases h
      · rename_i h3
        rw [if_neg h3]
        simp only [Bool.and_eq_true] at h2
        rw [reqs, chg_stack h]
        exact reqs_top h2.1.1 rfl
    · cases h
  · cases h
theorem answer_reqs {a : Actor} {r : Reply} (h : (answerB a r).2 = 0) : reqs (answerB a r).1 = reqs a := by
  unfold answerB at h ⊢
  split at h
  · rename_i h1
    rw [if_pos h1]
    dsimp only at h ⊢
    split at h
    · rename_i h2
      rw [if_pos h2]
      split at h
      · rename_i h3
        rw [if_pos h3]
        simp only [Bool.and_eq_true] at h2
        rw [reqs, chg_stack h]
        exact reqs_top h2.1.1 rfl
      · cases h
    · cases h
  · cases h
theorem resume_facts {a : Actor} (v : ActV a) (h : (resumeB a).2.2 = 0) : reqs (resumeB a).1 = reqs a ∧ (waitB a).2 = false ∧ (topB a).2 = true ∧
    (resumeB a).2.1.Client = (topB a).1.Request_.Client ∧ (resumeB a).2.1.Seq = (topB a).1.Request_.Seq ∧ (resumeB a).2.1.Path.length = (topB a).1.Request_.Path.length + 1 := by
  unfold resumeB at h ⊢
  split at h
  · rename_i h1
    rw [if_pos h1]
    dsimp only at h ⊢
    split at h
    · rename_i h2
      rw [if_pos h2]
      split at h
      · rename_i h3
        rw [if_pos h3]
        split at h
        · cases h
        · rename_i h4
          rw [if_neg h4]
          simp only [Bool.and_eq_true, Bool.not_eq_true'] at h2
          obtain ⟨f1, f2, f3⟩ := top_facts h2.1 v
          obtain ⟨c0, c1, c2, c3, c4, c5⟩ := call_pos f2 h2.2
          have hb := (head_of f2).2
          rw [bodyB, if_neg (by rw [h2.2]; simp), h3, if_pos rfl] at hb
          simp only [Bool.and_eq_true, sidB, sEq_iff', decide_eq_true_eq, intsE_iff] at hb
          obtain ⟨_, ⟨_, _⟩, ⟨d1, d2⟩, d3⟩ := hb
          refine ⟨?_, ?_, h2.1, by rw [← d1, c3], by rw [← d2, c4], by rw [← d3, c5]⟩
          · rw [reqs, chg_stack (by rw [chgB, if_neg h4])]
            exact reqs_top h2.1 rfl
          · unfold waitB; rw [if_neg (by rw [h3]; simp)]
      · cases h
    · cases h
  · cases h
theorem end_facts {a : Actor} (h : (endB a).2.2 = 0) : (topB a).2 = true ∧ (endB a).2.1 = (topB a).1.Request_ ∧ reqs (endB a).1 = (reqs a).dropLast := by
  unfold endB at h ⊢
  split at h
  · rename_i h1
    rw [if_pos h1]
    split at h
    · rename_i h2
      rw [if_pos h2]
      split at h
      · cases h
      · rename_i h3
        rw [if_neg h3]
        simp only [Bool.and_eq_true] at h2
        exact ⟨h2.1, rfl, by simp [reqs]⟩
    · cases h
  · cases h
theorem begin_reqs {a : Actor} {r : Request} (h : (begB a r).2 = 0) : reqs (begB a r).1 = reqs a ++ [r] := by
  unfold begB at h ⊢
  split at h
  · rename_i h1
    rw [if_pos h1, reqs, chg_stack h]
    simp [newT, reqs]
  · rename_i h1; exact absurd h h1
theorem begin_root {a : Actor} (v : ActV a) {r : Request} (hp : r.Path = []) (h : (begB a r).2 = 0) : a.Stack = [] := by
  unfold begB at h
  split at h
  · rename_i h1
    unfold admB at h1
    split at h1
    · split at h1
      · cases h1
      · split at h1
        · cases h1
        · rename_i h2
          cases ht : (topB a).2 with
          | false =>
            by_cases hs : a.Stack = []
            · exact hs
            · rw [topB_cons hs] at ht; cases ht
          | true =>
            exfalso
            rw [ht] at h2
            simp only [Bool.true_and, Bool.not_eq_true', Bool.not_eq_false', Bool.not_eq_true, Bool.not_eq_false, Bool.and_eq_true, waitsB, descB, decide_eq_true_eq] at h2
            obtain ⟨f1, f2, f3⟩ := top_facts ht v
            have c5 := (call_pos f2 h2.1.1.1).2.2.2.2.2
            have := h2.2.1.2
            rw [hp] at this
            simp only [List.length_nil] at this
            omega
    · cases h1
  · rename_i h1; exact absurd h h1
theorem wait_facts {a : Actor} (v : ActV a) (h : (waitB a).2 = true) : (waitB a).1.Path.length ≤ 8 ∧ (waitB a).1.Chain.length ≤ 8 := by
  unfold waitB at h ⊢
  split at h
  · rename_i h1
    rw [if_pos h1]
    simp only [Bool.and_eq_true, Bool.not_eq_true'] at h1
    obtain ⟨f1, f2, f3⟩ := top_facts h1.1.1.2 v
    have c1 := (call_pos f2 h1.1.2).2.1
    have := reqB_len c1
    simp only [reqB, Bool.and_eq_true, decide_eq_true_eq] at c1
    have h2 := c1.1.1.2
    simp only
    omega
  · cases h
theorem last_req {a : Actor} (h : (topB a).2 = true) (hl : a.Stack.length ≤ 9) : (reqs a)[(reqs a).length - 1]? = some (topB a).1.Request_ ∧ IntKind.i64.wrap ((((reqs a).length : Nat) : Int) - 1) = (((reqs a).length - 1 : Nat) : Int) ∧ ¬ (((reqs a).length : Nat) : Int) = 0 := by
  have h0 := topB_some h
  have hp := List.length_pos_iff.2 h0
  have e : (reqs a).length = a.Stack.length := by simp [reqs]
  refine ⟨?_, ?_, by omega⟩
  · rw [e, reqs, List.getElem?_map, getLast_at h0, topB_cons h0]; rfl
  · rw [w64' (by omega) (by omega)]; omega
theorem plays_loop (self : Ref) : ∀ (xs : List actorgridlaw24_Act) (v : Nat) (a : Actor), PlayI self a v → v + xs.length ≤ 80 →
    law24_TurnsPlays_L1 3 self xs v (a.Self.Type_, a.Self.Key, a.Index, a.Stack, reqs a, a.Index) = some true
  | [], v, a, _, _ => rfl
  | x :: xs, v, a, P, hv => by
    simp only [List.length_cons] at hv
    have hl := P.v.len
    have hrl : (reqs a).length = a.Stack.length := by simp [reqs]
    have hrec : ∀ c, PlayI self c (v + 1) → law24_TurnsPlays_L1 3 self xs (v + 1) (c.Self.Type_, c.Self.Key, c.Index, c.Stack, reqs c, c.Index) = some true := fun c hc => plays_loop self xs (v + 1) c hc (by omega)
    generalize hR : law24_TurnsPlays_L1 3 self xs (v + 1) = rec at hrec
    have stay : rec (a.Self.Type_, a.Self.Key, a.Index, a.Stack, reqs a, a.Index) = some true := hrec a ⟨P.v, P.bd, P.own, by have := P.idx; omega⟩
    rw [law24_TurnsPlays_L1, hR]
    change (turns_Waiting 3 a).bind _ = _
    rw [turns_Waiting_eq P.bd, Option.bind_some]
    have fin : ∀ (b : Actor) (e more : Int) (op : List Request), (e = 0 → After a b more ∧ op = reqs b) → (e ≠ 0 → op = reqs a) → law24_TurnsPlays_J11 3 rec self a.Index a.Self.Type_ a.Self.Key a.Index a.Stack b.Self.Type_ b.Self.Key b.Index b.Stack op e = some true :=
      fun b e more op h0 h1 => act_end P (by omega) rec e more op h0 h1 hrec
    by_cases k0 : Int.tmod x.Kind 7 = 0
    · rw [if_pos k0]
      generalize hr : Request.mk (bstr [IntKind.u8.wrap (97 + (Int.tmod x.Who 3))]) (IntKind.i64.wrap (1 + (IntKind.i64.wrap (Int.tmod x.What 4)))) [] self (⟨#[109]⟩) [] [] 0 = r
      have hp : r.Path = [] := by rw [← hr]
      have hbq : bdQ r := by rw [← hr]; simp [bdQ]
      change (turns_Begin 3 a r).bind _ = _
      rw [turns_Begin_eq P.bd hbq, Option.bind_some]
      have A := (beg_after P.v P.bd hbq).1
      have key : law24_TurnsPlays_J3 (begB a r) (reqs a) x self (law24_TurnsPlays_J11 3 rec self a.Index a.Self.Type_ a.Self.Key a.Index a.Stack) = some true := by
        unfold law24_TurnsPlays_J3
        rw [hr]
        by_cases he : (begB a r).2 = 0
        · rw [if_pos he, apx_of (by simp only [List.length_cons, List.length_nil]; omega)]
          exact fin _ _ 1 _ (fun h => ⟨A h, (begin_reqs h).symm⟩) (fun h => absurd he h)
        · rw [if_neg he]
          exact fin _ _ 1 _ (fun h => absurd h he) (fun _ => rfl)
      by_cases he : (begB a r).2 = 0
      · have h0 := begin_root P.v hp he
        have hd : decide (0 < (((reqs a).length : Nat) : Int)) = false := by simp [reqs, h0]
        rw [if_pos he, hd]
        simp only [law24_TurnsPlays_J2, Bool.false_eq_true, if_false]
        exact key
      · rw [if_neg he]
        simp only [law24_TurnsPlays_J2, Bool.false_eq_true, if_false]
        exact key
    rw [if_neg k0]
    by_cases k1 : Int.tmod x.Kind 7 = 1
    · rw [if_pos k1]
      by_cases hw : (waitB a).2 = true
      · obtain ⟨w1, w2⟩ := wait_facts P.v hw
        rw [if_pos hw, apn_of (by omega), apx_of (by simp only [List.length_cons, List.length_nil]; omega), apn_of (by omega), apx_of (by simp only [List.length_cons, List.length_nil]; omega)]
        generalize hr : Request.mk (waitB a).1.Client (waitB a).1.Seq ((waitB a).1.Path ++ [IntKind.i64.wrap (Int.tmod x.What 3)]) self (⟨#[110]⟩) [] ((waitB a).1.Chain ++ [(waitB a).1.Target]) 0 = r
        have hbq : bdQ r := by rw [← hr]; simp [bdQ]; omega
        change (turns_Begin 3 a r).bind _ = _
        rw [turns_Begin_eq P.bd hbq, Option.bind_some]
        have A := (beg_after P.v P.bd hbq).1
        by_cases he : (begB a r).2 = 0
        · rw [if_pos he, apx_of (by simp only [List.length_cons, List.length_nil]; omega)]
          exact fin _ _ 1 _ (fun h => ⟨A h, (begin_reqs h).symm⟩) (fun h => absurd he h)
        · rw [if_neg he]
          exact fin _ _ 1 _ (fun h => absurd h he) (fun _ => rfl)
      · rw [if_neg hw]; exact stay
    rw [if_neg k1]
    by_cases k2 : Int.tmod x.Kind 7 = 2
    · rw [if_pos k2]
      generalize Ref.mk (⟨#[66]⟩) (bstr [IntKind.u8.wrap (97 + (Int.tmod x.Who 3))]) = tg
      generalize hav : [Value.mk 1 (IntKind.i64.wrap x.What) (⟨#[]⟩) [] []] = av
      have hv1 : av.length ≤ 900 := by rw [← hav]; simp
      have hv2 : ∀ y ∈ av, bdV y := by rw [← hav]; intro y hy; rw [List.mem_singleton.1 hy]; simp [bdV]
      change (turns_Suspend 3 a tg _ av).bind _ = _
      rw [turns_Suspend_eq P.bd hv1 hv2, Option.bind_some]
      exact fin _ _ 0 _ (fun h => ⟨(suspend_after P.v P.bd hv1 hv2).1 h, (suspend_reqs h).symm⟩) (fun _ => rfl)
    rw [if_neg k2]
    by_cases k3 : Int.tmod x.Kind 7 = 3
    · rw [if_pos k3]
      change (turns_StartCall 3 a _ _ _).bind _ = _
      rw [turns_StartCall_eq P.bd, Option.bind_some]
      exact fin _ _ 0 _ (fun h => ⟨(start_after P.v P.bd).1 h, (start_reqs h).symm⟩) (fun _ => rfl)
    rw [if_neg k3]
    by_cases k4 : Int.tmod x.Kind 7 = 4
    · rw [if_pos k4]
      have hw8 : (waitB a).1.Path.length ≤ 1000 := by
        by_cases hw : (waitB a).2 = true
        · have := wait_facts P.v hw; omega
        · unfold waitB at hw ⊢
          split at hw
          · exact absurd rfl hw
          · rename_i h; rw [if_neg h]; simp [zQ]
      generalize hr : Reply.mk (waitB a).1.Client (waitB a).1.Seq (waitB a).1.Path 0 (Value.mk 1 (IntKind.i64.wrap x.What) (⟨#[]⟩) [] []) = r
      have hbp : bdP r := by rw [← hr]; exact ⟨hw8, by simp [bdV]⟩
      change (turns_Answer 3 a r).bind _ = _
      rw [turns_Answer_eq P.bd hbp, Option.bind_some]
      exact fin _ _ 0 _ (fun h => ⟨(answer_after P.v P.bd hbp).1 h, (answer_reqs h).symm⟩) (fun _ => rfl)
    rw [if_neg k4]
    by_cases k5 : Int.tmod x.Kind 7 = 5
    · rw [if_pos k5]
      change (turns_Resume 3 a).bind _ = _
      rw [turns_Resume_eq P.bd, Option.bind_some]
      have A := (resume_after P.v P.bd).1
      by_cases he : (resumeB a).2.2 = 0
      · obtain ⟨r1, r2, r3, r4, r5, r6⟩ := resume_facts P.v he
        obtain ⟨l1, l2, l3⟩ := last_req r3 hl
        have hpl : (topB a).1.Request_.Path.length ≤ 8 := by
          obtain ⟨f1, f2, f3⟩ := top_facts r3 P.v
          have := (head_of f2).1
          simp only [headB, Bool.and_eq_true] at this
          exact reqB_len this.1.1
        have hs : sEq (resumeB a).2.1.Client (topB a).1.Request_.Client = true := sEq_iff'.2 r4
        have hd : decide ((((resumeB a).2.1.Path.length : Nat) : Int) = IntKind.i64.wrap ((((topB a).1.Request_.Path.length : Nat) : Int) + 1)) = true := by
          rw [decide_eq_true_eq, r6, w64' (by omega) (by omega)]; omega
        rw [if_pos he, r2, if_neg Bool.false_ne_true, if_neg l3, l2, gx_of l1, if_pos hs, if_pos r5, hd]
        simp only [law24_TurnsPlays_J4, Bool.not_true, Bool.false_eq_true, if_false]
        exact fin _ _ 0 _ (fun h => ⟨A h, r1.symm⟩) (fun _ => rfl)
      · rw [if_neg he]
        simp only [law24_TurnsPlays_J4, Bool.false_eq_true, if_false]
        exact fin _ _ 0 _ (fun h => absurd h he) (fun _ => rfl)
    rw [if_neg k5]
    change (turns_End 3 a).bind _ = _
    rw [turns_End_eq P.bd, Option.bind_some]
    have A := (end_after P.v P.bd).1
    by_cases he : (endB a).2.2 = 0
    · obtain ⟨r1, r2, r3⟩ := end_facts he
      obtain ⟨l1, l2, l3⟩ := last_req r1 hl
      have ht : (reqs a).take ((reqs a).length - 1) = (reqs a).dropLast := (List.dropLast_eq_take).symm
      rw [if_pos he, if_neg l3, l2, gx_of l1, ref24_SameRequest_eq, r2, reqE_refl, Option.bind_some]
      simp only [law24_TurnsPlays_J5, Bool.not_true, Bool.false_eq_true, if_false, law24_TurnsPlays_J6, l2, Int.toNat_natCast]
      rw [slx_take (by omega), apn_of (by rw [ht, List.length_dropLast]; omega), ht]
      exact fin _ _ (-1) _ (fun h => ⟨A h, r3.symm⟩) (fun h => absurd he h)
    · rw [if_neg he]
      exact fin _ _ (-1) _ (fun h => absurd h he) (fun _ => rfl)
theorem plain_TurnsPlays (self : Ref) (xs : List actorgridlaw24_Act) : law24_TurnsPlays 3 self xs = some true := by
  simp only [law24_TurnsPlays, awake24, Option.bind_some, if_true, ref14_ValidRef_eq]
  by_cases hv : vrefB self = true
  · rw [if_pos hv]
    by_cases hl : 80 < ((xs.length : Nat) : Int)
    · simp [hl, law24_TurnsPlays_J1]
    · simp only [hl, decide_false, law24_TurnsPlays_J1, Bool.false_eq_true, if_false, law24_TurnsPlays_J12, turns_New_eq, Option.bind_some]
      have e : newB self = Actor.mk self 0 [] := by simp [newB, hv]
      rw [e]
      exact plays_loop self xs 0 (Actor.mk self 0 []) ⟨⟨hv, (rfl : numB 0 = true), by simp, rfl⟩, ⟨by simp, by simp⟩, rfl, by simp⟩ (by omega)
  · rw [if_neg hv]
    simp [law24_TurnsPlays_J1]
end Go.Proofs.Ytmgpaicldmgckaa
