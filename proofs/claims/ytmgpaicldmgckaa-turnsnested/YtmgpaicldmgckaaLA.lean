/- Plain facts on the models; no program in sight. -/
import Derived.Test.YtmgpaicldmgckaaM
set_option linter.unusedSimpArgs false
set_option linter.unusedVariables false
namespace Go.Proofs.Ytmgpaicldmgckaa
open Go Go.Proofs Go.Abs
theorem w64' {n : Int} (h1 : -9223372036854775808 ≤ n) (h2 : n ≤ 9223372036854775807) : IntKind.i64.wrap n = n := wrap64_in h1 h2
theorem sEq_iff' {a b : ByteArray} : sEq a b = true ↔ a = b := by
  unfold sEq
  rw [beq_iff_eq, ByteArray.toList_eq, ByteArray.toList_eq]
  obtain ⟨⟨x⟩⟩ := a
  obtain ⟨⟨y⟩⟩ := b
  simp
theorem sEq_refl (a : ByteArray) : sEq a a = true := sEq_iff'.2 rfl
theorem ite_someB {c : Prop} [Decidable c] {a b : Bool} : (if c then some a else some b) = some (if c then a else b) := by split <;> rfl
theorem ite_eqT {c : Prop} [Decidable c] {a b : Bool} : ((if c then a else b) = true) ↔ ((c ∧ a = true) ∨ (¬ c ∧ b = true)) := by split <;> simp [*]
theorem some_eqB {a b : Bool} : (some a = some b) ↔ (a = true ↔ b = true) := by cases a <;> cases b <;> simp
theorem bool_eqB {a b : Bool} : (a = b) ↔ (a = true ↔ b = true) := by cases a <;> cases b <;> simp
theorem gx_of {α β : Type} {l : List α} {i : Nat} {x : α} {k : α → Option β} (h : l[i]? = some x) : gx l (i : Int) k = k x := gx_nat h
def all2 {α : Type} (e : α → α → Bool) : List α → List α → Bool
  | [], _ => true
  | x :: xs, y :: ys => e x y && all2 e xs ys
  | _ :: _, [] => false
theorem all2_iff {α : Type} {e : α → α → Bool} (he : ∀ x y, e x y = true ↔ x = y) : ∀ {a b : List α}, a.length = b.length → (all2 e a b = true ↔ a = b)
  | [], [], _ => by simp [all2]
  | [], _ :: _, h => by simp at h
  | _ :: _, [], h => by simp at h
  | x :: a, y :: b, h => by
    simp only [all2, Bool.and_eq_true, he, List.cons.injEq]
    rw [all2_iff he (by simpa using h)]
theorem eq_loop {α : Type} {L : List α → Nat → Unit → Option Bool} (a1 : List α) (e : α → α → Bool) (h0 : ∀ v, L [] v () = some true)
    (h1 : ∀ x xs v, L (x :: xs) v () = gx a1 (v : Int) fun y => if e x y = true then L xs (v + 1) () else some false) :
    ∀ (xs : List α) (v : Nat), v + xs.length ≤ a1.length → L xs v () = some (all2 e xs (a1.drop v))
  | [], v, _ => by rw [h0]; rfl
  | x :: xs, v, h => by
    simp only [List.length_cons] at h
    have hv : v < a1.length := by omega
    rw [h1, gx_of (List.getElem?_eq_getElem hv), List.drop_eq_getElem_cons hv, eq_loop a1 e h0 h1 xs (v + 1) (by omega)]
    simp only [all2]
    cases e x a1[v] <;> simp
def eqL {α : Type} (e : α → α → Bool) (a b : List α) : Bool := decide (a.length = b.length) && all2 e a b
theorem eqL_iff {α : Type} {e : α → α → Bool} (he : ∀ x y, e x y = true ↔ x = y) {a b : List α} : eqL e a b = true ↔ a = b := by
  unfold eqL
  by_cases h : a.length = b.length
  · simp [h, all2_iff he h]
  · have : ¬ a = b := fun e => h (by rw [e])
    simp [h, this]
theorem eq_fun {α : Type} {L : List α → Nat → Unit → Option Bool} (a0 a1 : List α) (e : α → α → Bool) (h0 : ∀ v, L [] v () = some true)
    (h1 : ∀ x xs v, L (x :: xs) v () = gx a1 (v : Int) fun y => if e x y = true then L xs (v + 1) () else some false) :
    (if ((a0.length : Nat) : Int) = ((a1.length : Nat) : Int) then L a0 0 () else some false) = some (eqL e a0 a1) := by
  unfold eqL
  by_cases h : a0.length = a1.length
  · rw [if_pos (by omega), eq_loop a1 e h0 h1 a0 0 (by omega), List.drop_zero]
    simp [h]
  · rw [if_neg (by omega)]
    simp [h]
def findP {α : Type} (p : α → Bool) : List α → Nat → Int
  | [], _ => -1
  | x :: xs, v => if p x = true then (v : Int) else findP p xs (v + 1)
theorem find_loop {α : Type} {L : List α → Nat → Unit → Option Int} (f : α → Option Bool) (p : α → Bool) (h0 : ∀ v, L [] v () = some (-1))
    (h1 : ∀ x xs v, L (x :: xs) v () = (f x).bind fun r => if r = true then some ((v : Nat) : Int) else L xs (v + 1) ()) :
    ∀ (xs : List α) (v : Nat), (∀ x ∈ xs, f x = some (p x)) → L xs v () = some (findP p xs v)
  | [], v, _ => by rw [h0]; rfl
  | x :: xs, v, h => by
    rw [h1, h x (by simp), Option.bind_some, find_loop f p h0 h1 xs (v + 1) (fun y hy => h y (by simp [hy]))]
    simp only [findP]
    cases p x <;> rfl
theorem findP_any {α : Type} (p : α → Bool) : ∀ (xs : List α) (v : Nat), decide (0 ≤ findP p xs v) = xs.any p
  | [], v => rfl
  | x :: xs, v => by
    simp only [findP, List.any_cons]
    by_cases h : p x = true
    · have : (0 : Int) ≤ (v : Int) := by omega
      simp [h, this]
    · simpa [h] using findP_any p xs (v + 1)
theorem all_loop {α ρ : Type} {L : List α → Nat → Unit → Option ρ} (p : α → Bool) (k no : Option ρ) (h0 : ∀ v, L [] v () = k)
    (h1 : ∀ x xs v, L (x :: xs) v () = if p x = true then L xs (v + 1) () else no) :
    ∀ (xs : List α) (v : Nat), L xs v () = if xs.all p = true then k else no
  | [], v => by rw [h0]; rfl
  | x :: xs, v => by
    rw [h1, all_loop p k no h0 h1 xs (v + 1)]
    simp only [List.all_cons]
    by_cases h : p x = true <;> simp [h]
theorem set_same {α : Type} {l : List α} {i : Nat} {x : α} (h : l[i]? = some x) : l.set i x = l := by
  apply List.ext_getElem?
  intro j
  rw [List.getElem?_set]
  split
  · rename_i e
    subst e
    have := (List.getElem?_eq_some_iff.1 h).1
    rw [if_pos this, h]
  · rfl
theorem clone_loop {α ρ : Type} {L : Nat → Nat → List α → Option ρ} (P : α → Prop)
    (h1 : ∀ m v l x, l[v]? = some x → P x → L (m + 1) v l = L m (v + 1) l) :
    ∀ (m v : Nat) (l : List α), v + m ≤ l.length → (∀ x ∈ l, P x) → L m v l = L 0 (v + m) l
  | 0, v, l, _, _ => rfl
  | m + 1, v, l, h, hp => by
    have hv : v < l.length := by omega
    rw [h1 m v l l[v] (List.getElem?_eq_getElem hv) (hp _ (List.getElem_mem hv)), clone_loop P h1 m (v + 1) l (by omega) hp]
    congr 1; omega
theorem apn_of {α β : Type} {b : Nat} {l : List α} {k : Option β} (h : l.length * (b + 1) ≤ 140737488355328) : apn b l k = k := by simp only [apn]; rw [if_pos h]
theorem apx_of {α β : Type} {b : Nat} {l l' : List α} {k : List α → Option β} (h : (l.length + l'.length) * (b + 1) ≤ 140737488355328) : apx b l l' k = k (l ++ l') := by simp only [apx]; rw [if_pos h]
end Go.Proofs.Ytmgpaicldmgckaa

set_option linter.unusedSimpArgs false
set_option linter.unusedVariables false
namespace Go.Proofs.Ytmgpaicldmgckaa
open Go Go.Proofs Go.Abs
def strsB (l : List ByteArray) : Bool := l.all fun s => decide (s.size ≤ 64)
theorem wire_VV_L1 : ∀ (xs : List ByteArray) (v : Nat), wire_ValidValue_L1 xs v () = some (strsB xs)
  | [], v => rfl
  | x :: xs, v => by
    have ih := wire_VV_L1 xs (v + 1)
    simp only [wire_ValidValue_L1, ih, strsB, List.all_cons]
    grind
def valueB (v : Value) : Bool :=
  decide (0 ≤ v.Kind) && decide (v.Kind ≤ 5) &&
  decide (v.N = 0 ∨ v.Kind = 1 ∨ (v.Kind = 2 ∧ v.N = 1)) &&
  (sEq v.S ⟨#[]⟩ || decide (v.Kind = 3)) && (decide (v.I.length = 0) || decide (v.Kind = 4)) && (decide (v.L.length = 0) || decide (v.Kind = 5)) &&
  decide (v.S.size ≤ 64) && decide (v.I.length ≤ 16) && decide (v.L.length ≤ 16) && strsB v.L
theorem wire_ValidValue_eq (N : Nat) (v : Value) : wire_ValidValue N v = some (valueB v) := by
  simp only [wire_ValidValue, wire_ValidValue_J1, wire_ValidValue_J2, wire_ValidValue_J3, wire_ValidValue_J4, wire_ValidValue_J5, wire_ValidValue_J6, wire_ValidValue_J7, wire_ValidValue_J8, wire_ValidValue_J9, wire_VV_L1, valueB]
  generalize strsB v.L = q
  generalize sEq v.S ⟨#[]⟩ = z
  cases z <;> cases q <;> simp only [ite_someB, some_eqB, ite_eqT, if_true, if_false, Bool.false_eq_true, Bool.and_eq_true, Bool.or_eq_true, Bool.not_eq_true', decide_eq_true_eq, decide_eq_false_iff_not, Bool.and_false, Bool.and_true, Bool.or_true, Bool.or_false, Bool.true_or, Bool.false_or, Bool.not_true, Bool.not_false, and_false, false_and, or_false, false_or, Classical.not_not, true_and, and_true, iff_false, false_iff, not_false_eq_true, not_true_eq_false, true_or, or_true ] <;> omega
def intsE (a b : List Int) : Bool := eqL (fun x y => decide (x = y)) a b
def refE (a b : Ref) : Bool := sEq a.Type_ b.Type_ && sEq a.Key b.Key
theorem intsE_iff {a b : List Int} : intsE a b = true ↔ a = b := eqL_iff (by simp)
theorem refE_iff (a b : Ref) : refE a b = true ↔ a = b := by
  obtain ⟨a1, a2⟩ := a
  obtain ⟨b1, b2⟩ := b
  simp [refE, sEq_iff']
theorem ref1_SameInts_eq (N : Nat) (a b : List Int) : ref1_SameInts N a b = some (intsE a b) :=
  eq_fun (L := ref1_SameInts_L1 b) a b _ (fun _ => rfl) (fun x xs v => by simp [ref1_SameInts_L1])
theorem slices_Equal_int_eq (N : Nat) (a b : List Int) : slices_Equal_int N a b = some (intsE a b) :=
  eq_fun (L := slices_Equal_int_L1 b) a b _ (fun _ => rfl) (fun x xs v => by simp [slices_Equal_int_L1])
def nameB (s : ByteArray) : Bool := decide (1 ≤ s.size) && decide (s.size ≤ 32)
theorem turns_name_eq (N : Nat) (s : ByteArray) : turns_name N s = some (nameB s) := by
  simp only [turns_name, nameB, ite_someB, some_eqB, ite_eqT, if_true, if_false, Bool.false_eq_true, Bool.and_eq_true, Bool.or_eq_true, Bool.not_eq_true', decide_eq_true_eq, decide_eq_false_iff_not, Bool.and_false, Bool.and_true, Bool.or_true, Bool.or_false, Bool.true_or, Bool.false_or, Bool.not_true, Bool.not_false, and_false, false_and, or_false, false_or, Classical.not_not, true_and, and_true, iff_false, false_iff, not_false_eq_true, not_true_eq_false, true_or, or_true ] <;> omega
def numB (n : Int) : Bool := decide (0 ≤ n) && decide (n ≤ 1099511627776)
theorem turns_number_eq (N : Nat) (n : Int) : turns_number N n = some (numB n) := by
  simp only [turns_number, numB, ite_someB, some_eqB, ite_eqT, if_true, if_false, Bool.false_eq_true, Bool.and_eq_true, Bool.or_eq_true, Bool.not_eq_true', decide_eq_true_eq, decide_eq_false_iff_not, Bool.and_false, Bool.and_true, Bool.or_true, Bool.or_false, Bool.true_or, Bool.false_or, Bool.not_true, Bool.not_false, and_false, false_and, or_false, false_or, Classical.not_not, true_and, and_true, iff_false, false_iff, not_false_eq_true, not_true_eq_false, true_or, or_true ] <;> omega
def vrefB (r : Ref) : Bool := decide (1 ≤ r.Type_.size) && decide (r.Type_.size ≤ 32) && decide (r.Key.size ≤ 32)
theorem directory_ValidRef_eq (N : Nat) (r : Ref) : directory_ValidRef N r = some (vrefB r) := by
  simp only [directory_ValidRef, vrefB, ite_someB, some_eqB, ite_eqT, if_true, if_false, Bool.false_eq_true, Bool.and_eq_true, Bool.or_eq_true, Bool.not_eq_true', decide_eq_true_eq, decide_eq_false_iff_not, Bool.and_false, Bool.and_true, Bool.or_true, Bool.or_false, Bool.true_or, Bool.false_or, Bool.not_true, Bool.not_false, and_false, false_and, or_false, false_or, Classical.not_not, true_and, and_true, iff_false, false_iff, not_false_eq_true, not_true_eq_false, true_or, or_true ] <;> omega
def pathB (l : List Int) : Bool := decide (l.length ≤ 8) && l.all numB
def idB (c : ByteArray) (s : Int) (p : List Int) : Bool := nameB c && decide (1 ≤ s) && decide (s ≤ 1099511627776) && pathB p
theorem any_not {α : Type} (p : α → Bool) (l : List α) : (l.any fun x => !p x) = !(l.all p) := by
  induction l with
  | nil => rfl
  | cons x l ih => simp [ih]
theorem cf_number (N : Nat) (l : List Int) : slices_ContainsFunc_int_turns_validID_1 N l = some (!(l.all numB)) := by
  have h := find_loop (L := slices_IndexFunc_int_turns_validID_1_L1 N) (turns_validID_1 N) (fun n => !numB n) (fun _ => rfl) (fun _ _ _ => rfl) l 0 (fun x _ => by simp [turns_validID_1, turns_number_eq])
  simp only [slices_ContainsFunc_int_turns_validID_1, slices_IndexFunc_int_turns_validID_1, h, Option.bind_some, findP_any, any_not]
theorem turns_validID_eq (N : Nat) (c : ByteArray) (s : Int) (p : List Int) : turns_validID N c s p = some (idB c s p) := by
  simp only [turns_validID, turns_name_eq, turns_number_eq, cf_number, Option.bind_some, idB, pathB, Bool.not_not]
  generalize nameB c = q
  generalize p.all numB = z
  simp only [numB]
  cases q <;> cases z <;> simp only [ite_someB, some_eqB, ite_eqT, if_true, if_false, Bool.false_eq_true, Bool.and_eq_true, Bool.or_eq_true, Bool.not_eq_true', decide_eq_true_eq, decide_eq_false_iff_not, Bool.and_false, Bool.and_true, Bool.or_true, Bool.or_false, Bool.true_or, Bool.false_or, Bool.not_true, Bool.not_false, and_false, false_and, or_false, false_or, Classical.not_not, true_and, and_true, iff_false, false_iff, not_false_eq_true, not_true_eq_false, true_or, or_true ] <;> omega
def argsB (l : List Value) : Bool := decide (l.length ≤ 4) && l.all fun v => valueB v && !decide (v.Kind = 0)
theorem cf_args (N : Nat) (l : List Value) : slices_ContainsFunc_Value_turns_validArgs_1 N l = some (!(l.all fun v => valueB v && !decide (v.Kind = 0))) := by
  have h := find_loop (L := slices_IndexFunc_Value_turns_validArgs_1_L1 N) (turns_validArgs_1 N) (fun v => !(valueB v && !decide (v.Kind = 0))) (fun _ => rfl) (fun _ _ _ => rfl) l 0 (fun x _ => by
    simp only [turns_validArgs_1, wire_ValidValue_eq, Option.bind_some]
    by_cases h : x.Kind = 0 <;> simp [h])
  simp only [slices_ContainsFunc_Value_turns_validArgs_1, slices_IndexFunc_Value_turns_validArgs_1, h, Option.bind_some, findP_any, any_not]
theorem turns_validArgs_eq (N : Nat) (l : List Value) : turns_validArgs N l = some (argsB l) := by
  simp only [turns_validArgs, cf_args, Option.bind_some, argsB, Bool.not_not]
  generalize (l.all fun v => valueB v && !decide (v.Kind = 0)) = z
  cases z <;> simp only [ite_someB, some_eqB, ite_eqT, if_true, if_false, Bool.false_eq_true, Bool.and_eq_true, Bool.or_eq_true, Bool.not_eq_true', decide_eq_true_eq, decide_eq_false_iff_not, Bool.and_false, Bool.and_true, Bool.or_true, Bool.or_false, Bool.true_or, Bool.false_or, Bool.not_true, Bool.not_false, and_false, false_and, or_false, false_or, Classical.not_not, true_and, and_true, iff_false, false_iff, not_false_eq_true, not_true_eq_false, true_or, or_true ] <;> omega
def reqB (r : Request) : Bool := idB r.Client r.Seq r.Path && vrefB r.Target && nameB r.Method && argsB r.Args && decide (r.Chain.length = r.Path.length) && r.Chain.all vrefB && numB r.Txn
theorem cf_chain (N : Nat) (l : List Ref) : slices_ContainsFunc_Ref_turns_ValidRequest_1 N l = some (!(l.all vrefB)) := by
  have h := find_loop (L := slices_IndexFunc_Ref_turns_ValidRequest_1_L1 N) (turns_ValidRequest_1 N) (fun n => !vrefB n) (fun _ => rfl) (fun _ _ _ => rfl) l 0 (fun x _ => by simp [turns_ValidRequest_1, directory_ValidRef_eq])
  simp only [slices_ContainsFunc_Ref_turns_ValidRequest_1, slices_IndexFunc_Ref_turns_ValidRequest_1, h, Option.bind_some, findP_any, any_not]
theorem turns_ValidRequest_eq (N : Nat) (r : Request) : turns_ValidRequest N r = some (reqB r) := by
  simp only [turns_ValidRequest, turns_validID_eq, directory_ValidRef_eq, turns_name_eq, turns_validArgs_eq, cf_chain, turns_number_eq, Option.bind_some, reqB]
  generalize r.Chain.all vrefB = z
  generalize idB r.Client r.Seq r.Path = b1
  generalize vrefB r.Target = b2
  generalize nameB r.Method = b3
  generalize argsB r.Args = b4
  generalize numB r.Txn = b5
  cases z <;> cases b1 <;> cases b2 <;> cases b3 <;> cases b4 <;> cases b5 <;> simp only [ite_someB, some_eqB, ite_eqT, if_true, if_false, Bool.false_eq_true, Bool.and_eq_true, Bool.or_eq_true, Bool.not_eq_true', decide_eq_true_eq, decide_eq_false_iff_not, Bool.and_false, Bool.and_true, Bool.or_true, Bool.or_false, Bool.true_or, Bool.false_or, Bool.not_true, Bool.not_false, and_false, false_and, or_false, false_or, Classical.not_not, true_and, and_true, iff_false, false_iff, not_false_eq_true, not_true_eq_false, true_or, or_true ] <;> omega
def sidB (r : Request) (c : ByteArray) (s : Int) (p : List Int) : Bool := sEq r.Client c && decide (r.Seq = s) && intsE r.Path p
theorem turns_SameID_eq (N : Nat) (r : Request) (c : ByteArray) (s : Int) (p : List Int) : turns_SameID N r c s p = some (sidB r c s p) := by
  simp only [turns_SameID, slices_Equal_int_eq, Option.bind_some, sidB]
  cases sEq r.Client c <;> by_cases h : r.Seq = s <;> simp [h]
def descB (r c : Request) : Bool := sEq r.Client c.Client && decide (r.Seq = c.Seq) && decide (c.Path.length ≤ r.Path.length) && intsE (r.Path.take c.Path.length) c.Path
theorem slx_take {α β : Type} {l : List α} {n : Nat} {k : List α → Option β} (h : n ≤ l.length) : slx l 0 ((n : Nat) : Int) k = k (l.take n) := by
  unfold slx
  rw [if_pos ⟨by omega, by omega, by simp, by simpa using h⟩]
  simp
theorem turns_Descends_eq (N : Nat) (r c : Request) : turns_Descends N r c = some (descB r c) := by
  simp only [turns_Descends, descB]
  by_cases h : c.Path.length ≤ r.Path.length
  · have h' : ((c.Path.length : Nat) : Int) ≤ ((r.Path.length : Nat) : Int) := by omega
    simp only [slx_take h, slices_Equal_int_eq, Option.bind_some, h, h', decide_true, if_true]
    cases sEq r.Client c.Client <;> by_cases h : r.Seq = c.Seq <;> simp [h]
  · have h' : ¬ ((c.Path.length : Nat) : Int) ≤ ((r.Path.length : Nat) : Int) := by omega
    simp only [h, h', if_false, decide_false]
    cases sEq r.Client c.Client <;> by_cases h : r.Seq = c.Seq <;> simp [h]
end Go.Proofs.Ytmgpaicldmgckaa

set_option linter.unusedSimpArgs false
set_option linter.unusedVariables false
namespace Go.Proofs.Ytmgpaicldmgckaa
open Go Go.Proofs Go.Abs
def zQ : Request := Request.mk (⟨#[]⟩) 0 [] (Ref.mk (⟨#[]⟩) (⟨#[]⟩)) (⟨#[]⟩) [] [] 0
def zP : Reply := Reply.mk (⟨#[]⟩) 0 [] 0 (Value.mk 0 0 (⟨#[]⟩) [] [])
def bdV (v : Value) : Prop := v.I.length ≤ 1000 ∧ v.L.length ≤ 1000
def bdQ (r : Request) : Prop := r.Path.length ≤ 1000 ∧ r.Args.length ≤ 1000 ∧ r.Chain.length ≤ 1000 ∧ ∀ v ∈ r.Args, bdV v
theorem clone_int {N : Nat} {l : List Int} (h : l.length ≤ 2000) : slices_Clone_int N l = some l := apn_of (by omega)
theorem clone_Ref {N : Nat} {l : List Ref} (h : l.length ≤ 2000) : slices_Clone_Ref N l = some l := apn_of (by omega)
theorem clone_string {N : Nat} {l : List ByteArray} (h : l.length ≤ 2000) : slices_Clone_string N l = some l := apn_of (by omega)
theorem clone_Value {N : Nat} {l : List Value} (h : l.length ≤ 2000) : slices_Clone_Value N l = some l := apn_of (by omega)
theorem cloneValues_eq {N : Nat} {l : List Value} (h : l.length ≤ 1000) (hb : ∀ v ∈ l, bdV v) : turns_cloneValues N l = some l := by
  simp only [turns_cloneValues, clone_Value (show l.length ≤ 2000 by omega), Option.bind_some]
  rw [clone_loop (L := turns_cloneValues_L1 N) bdV (by
    intro m v l x hx hp
    simp only [turns_cloneValues_L1, gx_of hx, clone_int (show x.I.length ≤ 2000 by have := hp.1; omega), clone_string (show x.L.length ≤ 2000 by have := hp.2; omega), Option.bind_some]
    have e : l.set v (Value.mk x.Kind x.N x.S x.I x.L) = l := set_same hx
    rw [e]) (l.length - 0) 0 l (by omega) hb]
  rfl
theorem cloneRequest_eq {N : Nat} {r : Request} (h : bdQ r) : turns_cloneRequest N r = some r := by
  obtain ⟨h1, h2, h3, h4⟩ := h
  simp only [turns_cloneRequest, clone_int (show r.Path.length ≤ 2000 by omega), cloneValues_eq h2 h4, clone_Ref (show r.Chain.length ≤ 2000 by omega), Option.bind_some]
end Go.Proofs.Ytmgpaicldmgckaa

set_option linter.unusedSimpArgs false
set_option linter.unusedVariables false
namespace Go.Proofs.Ytmgpaicldmgckaa
open Go Go.Proofs Go.Abs
def nestB (t : Turn) (self target : Ref) (method : ByteArray) (args : List Value) : Request × Int :=
  if (reqB t.Request_ && numB t.Calls && vrefB self && vrefB target && nameB method && argsB args) = true then
    if t.Request_.Path.length = 8 ∨ t.Calls = 1099511627776 then (zQ, 5)
    else (Request.mk t.Request_.Client t.Request_.Seq (t.Request_.Path ++ [t.Calls]) target method args (t.Request_.Chain ++ [self]) t.Request_.Txn, 0)
  else (zQ, 1)
theorem reqB_len {r : Request} (h : reqB r = true) : r.Path.length ≤ 8 := by
  simp only [reqB, idB, pathB, Bool.and_eq_true, decide_eq_true_eq] at h; omega
theorem turns_Nested_eq {N : Nat} {t : Turn} (h : bdQ t.Request_) {self target : Ref} {method : ByteArray} {args : List Value} (ha : args.length ≤ 1000) (hv : ∀ v ∈ args, bdV v) : turns_Nested N t self target method args = some (nestB t self target method args) := by
  obtain ⟨h1, h2, h3, h4⟩ := h
  have hJ4 : turns_Nested_J4 t N self args target method = some (if t.Request_.Path.length = 8 ∨ t.Calls = 1099511627776 then (zQ, 5)
    else (Request.mk t.Request_.Client t.Request_.Seq (t.Request_.Path ++ [t.Calls]) target method args (t.Request_.Chain ++ [self]) t.Request_.Txn, 0)) := by
    have e8 : (((t.Request_.Path.length : Nat) : Int) = 8) = (t.Request_.Path.length = 8) := by apply propext; omega
    simp only [turns_Nested_J4, turns_Nested_J3, turns_Nested_J2, cloneRequest_eq ⟨h1, h2, h3, h4⟩, Option.bind_some, e8, cloneValues_eq ha hv]
    rw [apx_of (by simp only [List.length_cons, List.length_nil]; omega), apx_of (by simp only [List.length_cons, List.length_nil]; omega)]
    by_cases c1 : t.Request_.Path.length = 8
    · simp [c1]; rfl
    · by_cases c2 : t.Calls = 1099511627776
      · simp [c1, c2]; rfl
      · simp [c1, c2]
  simp only [turns_Nested, turns_ValidRequest_eq, turns_number_eq, directory_ValidRef_eq, turns_name_eq, turns_validArgs_eq, Option.bind_some, turns_Nested_J1, hJ4, nestB]
  cases reqB t.Request_ <;> cases numB t.Calls <;> cases vrefB self <;> cases vrefB target <;> cases nameB method <;> cases argsB args <;> first | rfl | (simp; done) | (simp; rfl) | (simp; exact ⟨rfl, rfl⟩) | (simp; exact ⟨rfl, rfl, rfl⟩)
end Go.Proofs.Ytmgpaicldmgckaa

set_option linter.unusedSimpArgs false
set_option linter.unusedVariables false
namespace Go.Proofs.Ytmgpaicldmgckaa
open Go Go.Proofs Go.Abs
theorem awake24 : law24_awake 3 = some true := by decide +kernel
end Go.Proofs.Ytmgpaicldmgckaa

set_option linter.unusedSimpArgs false
set_option linter.unusedVariables false
namespace Go.Proofs.Ytmgpaicldmgckaa
open Go Go.Proofs Go.Abs
theorem value24 (N : Nat) (v : Value) : ∃ b, law24_value N v = some b ∧ (b = true → bdV v) := by
  have h := all_loop (L := law24_value_L1 (law24_value_J1 v)) (fun s => !decide (100 < ((s.size : Nat) : Int))) (law24_value_J1 v) (some false) (fun _ => rfl) (fun x xs w => by
    simp only [law24_value_L1]
    by_cases h : 100 < ((x.size : Nat) : Int) <;> simp [h]) v.L 0
  rw [law24_value, h]
  split
  · simp only [law24_value_J1]
    split
    · split
      · refine ⟨_, rfl, fun hb => ?_⟩
        rw [decide_eq_true_eq] at hb
        constructor <;> omega
      · exact ⟨false, rfl, by simp⟩
    · exact ⟨false, rfl, by simp⟩
  · exact ⟨false, rfl, by simp⟩
def smallV (v : Value) : Bool := (law24_value 3 v).getD false
theorem smallV_eq (v : Value) : law24_value 3 v = some (smallV v) := by
  obtain ⟨b, hb, _⟩ := value24 3 v; rw [smallV, hb]; rfl
theorem smallV_bd {v : Value} (h : smallV v = true) : bdV v := by
  obtain ⟨b, hb, hh⟩ := value24 3 v
  rw [smallV, hb] at h; exact hh h
theorem request24 (r : Request) : ∃ b, law24_request 3 r = some b ∧ (b = true → bdQ r ∧ r.Args.length ≤ 20 ∧ r.Path.length ≤ 30) := by
  have h := all_loop (L := law24_request_L1 (law24_request_J3 r) 3) smallV (law24_request_J3 r) (some false) (fun _ => rfl) (fun x xs w => by
    simp only [law24_request_L1, smallV_eq, Option.bind_some]) r.Args 0
  have h2 := all_loop (L := law24_request_L2 (law24_request_J2 r)) (fun s => !decide (100 < ((s.Type_.size : Nat) : Int)) && !decide (100 < ((s.Key.size : Nat) : Int))) (law24_request_J2 r) (some false) (fun _ => rfl) (fun x xs w => by
    simp only [law24_request_L2, law24_request_J1]
    by_cases h : 100 < ((x.Type_.size : Nat) : Int) <;> by_cases h' : 100 < ((x.Key.size : Nat) : Int) <;> simp [h, h']) r.Chain 0
  rw [law24_request, h, law24_request_J3, h2]
  have no : ∃ b, some false = some b ∧ (b = true → bdQ r ∧ r.Args.length ≤ 20 ∧ r.Path.length ≤ 30) := ⟨false, rfl, by simp⟩
  split
  · rename_i ha
    split
    · simp only [law24_request_J2]
      split
      · split
        · split
          · split
            · split
              · split
                · refine ⟨_, rfl, fun hb => ?_⟩
                  rw [decide_eq_true_eq] at hb
                  rw [List.all_eq_true] at ha
                  exact ⟨⟨by omega, by omega, by omega, fun v hv => smallV_bd (ha v hv)⟩, by omega, by omega⟩
                · exact no
              · exact no
            · exact no
          · exact no
        · exact no
      · exact no
    · exact no
  · exact no
def smallQ (r : Request) : Bool := (law24_request 3 r).getD false
theorem smallQ_eq (r : Request) : law24_request 3 r = some (smallQ r) := by
  obtain ⟨b, hb, _⟩ := request24 r; rw [smallQ, hb]; rfl
theorem smallQ_bd {r : Request} (h : smallQ r = true) : bdQ r ∧ r.Args.length ≤ 20 ∧ r.Path.length ≤ 30 := by
  obtain ⟨b, hb, hh⟩ := request24 r
  rw [smallQ, hb] at h; exact hh h
end Go.Proofs.Ytmgpaicldmgckaa

set_option linter.unusedSimpArgs false
set_option linter.unusedVariables false
namespace Go.Proofs.Ytmgpaicldmgckaa
open Go Go.Proofs Go.Abs
theorem refE_refl (r : Ref) : refE r r = true := (refE_iff r r).2 rfl
theorem numB_iff (n : Int) : numB n = true ↔ 0 ≤ n ∧ n ≤ 1099511627776 := by simp [numB]
theorem nest_valid {t : Turn} {self target : Ref} {m : ByteArray} {args : List Value} (h : (nestB t self target m args).2 = 0) :
    reqB t.Request_ = true ∧ numB t.Calls = true ∧ t.Calls ≠ 1099511627776 ∧ reqB (nestB t self target m args).1 = true ∧
    (nestB t self target m args).1 = Request.mk t.Request_.Client t.Request_.Seq (t.Request_.Path ++ [t.Calls]) target m args (t.Request_.Chain ++ [self]) t.Request_.Txn := by
  unfold nestB at h ⊢
  split at h
  · rename_i hc
    split at h
    · cases h
    · rename_i hn
      rw [if_pos hc, if_neg hn]
      simp only [Bool.and_eq_true] at hc
      obtain ⟨⟨⟨⟨⟨c1, c2⟩, c3⟩, c4⟩, c5⟩, c6⟩ := hc
      simp only [not_or] at hn
      refine ⟨c1, c2, hn.2, ?_, rfl⟩
      have hl := reqB_len c1
      simp only [reqB, idB, pathB, Bool.and_eq_true, decide_eq_true_eq] at c1 ⊢
      obtain ⟨⟨⟨⟨⟨⟨d1, d2⟩, d3⟩, d4⟩, d5⟩, d6⟩, d7⟩ := c1
      obtain ⟨⟨⟨e1, e2⟩, e3⟩, e4, e5⟩ := d1
      refine ⟨⟨⟨⟨⟨⟨⟨⟨⟨e1, e2⟩, e3⟩, ?_, ?_⟩, c4⟩, c5⟩, c6⟩, ?_⟩, ?_⟩, d7⟩
      · simp only [List.length_append, List.length_cons, List.length_nil]; omega
      · simp [List.all_append, e5, c2]
      · simp only [List.length_append, List.length_cons, List.length_nil]; omega
      · simp [List.all_append, d6, c3]
  · cases h
end Go.Proofs.Ytmgpaicldmgckaa

set_option linter.unusedSimpArgs false
set_option linter.unusedVariables false
namespace Go.Proofs.Ytmgpaicldmgckaa
open Go Go.Proofs Go.Abs
theorem nestB_err {t : Turn} {self target : Ref} {m : ByteArray} {args : List Value} (h : (nestB t self target m args).2 ≠ 0) :
    (nestB t self target m args).2 = 1 ∨ ((nestB t self target m args).2 = 5 ∧ (t.Request_.Path.length = 8 ∨ t.Calls = 1099511627776)) := by
  unfold nestB at h ⊢
  split at h
  · rename_i hc
    split at h
    · rename_i hn; rw [if_pos hc, if_pos hn]; exact Or.inr ⟨rfl, hn⟩
    · exact absurd rfl h
  · rename_i hc; rw [if_neg hc]; exact Or.inl rfl
theorem nestB_same (r : Request) (c d : Int) (hc : 0 ≤ c ∧ c ≤ 255) (hd : 0 ≤ d ∧ d ≤ 255) (self target : Ref) (m : ByteArray) (args : List Value) :
    (nestB (Turn.mk r c zQ false false zP) self target m args).2 = (nestB (Turn.mk r d zQ false false zP) self target m args).2 := by
  have h1 : numB c = true := (numB_iff c).2 (by omega)
  have h2 : numB d = true := (numB_iff d).2 (by omega)
  have n1 : ¬ c = 1099511627776 := by omega
  have n2 : ¬ d = 1099511627776 := by omega
  simp only [nestB, h1, h2, n1, n2, or_false]
  split
  · split <;> rfl
  · rfl
theorem plain_TurnsNested (r : Request) (self target : Ref) (m : ByteArray) (i k : Int) (hi : 0 ≤ i ∧ i ≤ 255) (hk : 0 ≤ k ∧ k ≤ 255) : law24_TurnsNested 3 r self target m i k = some true := by
  simp only [law24_TurnsNested, awake24, smallQ_eq, Option.bind_some, if_true, law24_TurnsNested_J1]
  by_cases hr : smallQ r = true
  · obtain ⟨hq, _, hpl⟩ := smallQ_bd hr
    have hJ : law24_TurnsNested_J4 3 r i self target m k = some true := by
      have wi : IntKind.i64.wrap i = i := w64' (by omega) (by omega)
      have wk : IntKind.i64.wrap k = k := w64' (by omega) (by omega)
      rw [law24_TurnsNested_J4, wi, wk]
      change (turns_Nested 3 (Turn.mk r i zQ false false zP) self target m []).bind _ = _
      rw [turns_Nested_eq (t := Turn.mk r i zQ false false zP) hq (by simp) (by simp), Option.bind_some]
      change (turns_Nested 3 (Turn.mk r k zQ false false zP) self target m []).bind _ = _
      rw [turns_Nested_eq (t := Turn.mk r k zQ false false zP) hq (by simp) (by simp), Option.bind_some]
      have hs := nestB_same r i k hi hk self target m []
      rw [if_pos hs]
      by_cases h0 : (nestB (Turn.mk r i zQ false false zP) self target m []).2 = 0
      · obtain ⟨c1, c2, c3, c4, c5⟩ := nest_valid h0
        obtain ⟨d1, d2, d3, d4, d5⟩ := nest_valid (hs ▸ h0)
        simp only [law24_TurnsNested_J2, h0, decide_true, Bool.not_true, Bool.false_eq_true, if_false, law24_TurnsNested_J3, turns_ValidRequest_eq, c4, Option.bind_some, if_true, turns_Descends_eq, turns_SameID_eq, ref1_SameInts_eq]
        have hch : r.Chain.length = r.Path.length := by
          have := c1
          simp only [reqB, Bool.and_eq_true, decide_eq_true_eq] at this; exact this.1.1.2
        have e1 : descB (nestB (Turn.mk r i zQ false false zP) self target m []).1 r = true := by
          rw [c5]
          simp only [descB, sEq_refl, List.length_append, List.length_cons, List.length_nil, Bool.true_and, decide_true, Bool.and_eq_true, decide_eq_true_eq, intsE_iff]
          exact ⟨by omega, by simp⟩
        have e2 : ((nestB (Turn.mk r i zQ false false zP) self target m []).1.Chain.length : Int) = ((nestB (Turn.mk r i zQ false false zP) self target m []).1.Path.length : Int) := by
          rw [c5]; simp only [List.length_append, List.length_cons, List.length_nil]; omega
        have hgx : (nestB (Turn.mk r i zQ false false zP) self target m []).1.Chain[r.Chain.length]? = some self := by
          rw [c5]; simp
        have e3 : IntKind.i64.wrap (((nestB (Turn.mk r i zQ false false zP) self target m []).1.Chain.length : Int) - 1) = ((r.Chain.length : Nat) : Int) := by
          rw [c5]; simp only [List.length_append, List.length_cons, List.length_nil]; rw [w64' (by omega) (by omega)]; omega
        have e4 : (sEq self.Type_ self.Type_ && sEq self.Key self.Key) = true := refE_refl self
        have e5 : sidB (nestB (Turn.mk r i zQ false false zP) self target m []).1 (nestB (Turn.mk r k zQ false false zP) self target m []).1.Client (nestB (Turn.mk r k zQ false false zP) self target m []).1.Seq (nestB (Turn.mk r k zQ false false zP) self target m []).1.Path = decide (i = k) := by
          rw [c5, d5]
          simp only [sidB, sEq_refl, decide_true, Bool.true_and]
          rw [bool_eqB, intsE_iff, decide_eq_true_eq]
          simp
        have e6 : intsE (nestB (Turn.mk r i zQ false false zP) self target m []).1.Path r.Path = false := by
          cases he : intsE (nestB (Turn.mk r i zQ false false zP) self target m []).1.Path r.Path
          · rfl
          · have := congrArg List.length (intsE_iff.1 he)
            rw [c5] at this
            simp at this
        rw [e1, if_pos rfl, if_pos e2, e3, gx_of hgx]
        simp only [e4, e5, e6, if_true, Option.bind_some, Bool.not_false]
      · have he := nestB_err h0
        have : (!decide ((nestB (Turn.mk r i zQ false false zP) self target m []).2 = 0)) = true := by simp [h0]
        rw [this, law24_TurnsNested_J2, if_pos rfl, if_pos hs]
        rcases he with he | ⟨he, h8 | hc⟩
        · rw [if_pos he]
        · rw [if_neg (by rw [he]; decide), if_pos he]
          have h8' : r.Path.length = 8 := h8
          rw [decide_eq_true (by omega)]
        · have hc' : i = 1099511627776 := hc
          omega
    simp only [hJ, hr, if_true]
    split
    · rfl
    · split
      · rfl
      · split
        · rfl
        · split
          · rfl
          · split <;> rfl
  · simp [hr]
end Go.Proofs.Ytmgpaicldmgckaa
