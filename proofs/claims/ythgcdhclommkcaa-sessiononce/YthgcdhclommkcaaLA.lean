/- Plain facts on the models; no program in sight. -/
import Derived.Test.YthgcdhclommkcaaM
set_option linter.unusedSimpArgs false
set_option linter.unusedVariables false
namespace Go.Proofs.Ythgcdhclommkcaa
open Go Go.Proofs Go.Abs
theorem w64' {n : Int} (h1 : -9223372036854775808 ≤ n) (h2 : n ≤ 9223372036854775807) : IntKind.i64.wrap n = n := wrap64_in h1 h2
theorem sEq_iff' {a b : ByteArray} : sEq a b = true ↔ a = b := by
  unfold sEq
  rw [beq_iff_eq, ByteArray.toList_eq, ByteArray.toList_eq]
  obtain ⟨⟨x⟩⟩ := a
  obtain ⟨⟨y⟩⟩ := b
  simp
theorem ite_someB {c : Prop} [Decidable c] {a b : Bool} : (if c then some a else some b) = some (if c then a else b) := by split <;> rfl
theorem ite_eqT {c : Prop} [Decidable c] {a b : Bool} : ((if c then a else b) = true) ↔ ((c ∧ a = true) ∨ (¬ c ∧ b = true)) := by split <;> simp [*]
theorem some_eqB {a b : Bool} : (some a = some b) ↔ (a = true ↔ b = true) := by cases a <;> cases b <;> simp
theorem gx_of {α β : Type} {l : List α} {i : Nat} {x : α} {k : α → Option β} (h : l[i]? = some x) : gx l (i : Int) k = k x := gx_nat h
def all2 {α : Type} (e : α → α → Bool) : List α → List α → Bool
  | [], _ => true
  | x :: xs, y :: ys => e x y && all2 e xs ys
  | _ :: _, [] => false
def eqL {α : Type} (e : α → α → Bool) (a b : List α) : Bool := decide (a.length = b.length) && all2 e a b
def findP {α : Type} (p : α → Bool) : List α → Nat → Int
  | [], _ => -1
  | x :: xs, v => if p x = true then (v : Int) else findP p xs (v + 1)
theorem find_loop {α : Type} {L : List α → Nat → Unit → Option Int} (f : α → Option Bool) (p : α → Bool) (h0 : ∀ v, L [] v () = some (-1))
    (h1 : ∀ x xs v, L (x :: xs) v () = (f x).bind fun r => if r = true then some ((v : Nat) : Int) else L xs (v + 1) ()) :
    ∀ (xs : List α) (v : Nat), (∀ x ∈ xs, f x = some (p x)) → L xs v () = some (findP p xs v)
  | [], v, _ => by rw [h0]; rfl
  | x :: xs, v, h => by
    rw [h1, h x (by simp), Option.bind_some, find_loop f p h0 h1 xs (v + 1) (fun y hy => h y (by simp [hy]))]
    simp only [findP]
    cases p x <;> rfl
theorem findP_any {α : Type} (p : α → Bool) : ∀ (xs : List α) (v : Nat), decide (0 ≤ findP p xs v) = xs.any p
  | [], v => rfl
  | x :: xs, v => by
    simp only [findP, List.any_cons]
    by_cases h : p x = true
    · have : (0 : Int) ≤ (v : Int) := by omega
      simp [h, this]
    · simpa [h] using findP_any p xs (v + 1)
theorem set_same {α : Type} {l : List α} {i : Nat} {x : α} (h : l[i]? = some x) : l.set i x = l := by
  apply List.ext_getElem?
  intro j
  rw [List.getElem?_set]
  split
  · rename_i e
    subst e
    have := (List.getElem?_eq_some_iff.1 h).1
    rw [if_pos this, h]
  · rfl
theorem clone_loop {α ρ : Type} {L : Nat → Nat → List α → Option ρ} (P : α → Prop)
    (h1 : ∀ m v l x, l[v]? = some x → P x → L (m + 1) v l = L m (v + 1) l) :
    ∀ (m v : Nat) (l : List α), v + m ≤ l.length → (∀ x ∈ l, P x) → L m v l = L 0 (v + m) l
  | 0, v, l, _, _ => rfl
  | m + 1, v, l, h, hp => by
    have hv : v < l.length := by omega
    rw [h1 m v l l[v] (List.getElem?_eq_getElem hv) (hp _ (List.getElem_mem hv)), clone_loop P h1 m (v + 1) l (by omega) hp]
    congr 1; omega
theorem apn_of {α β : Type} {b : Nat} {l : List α} {k : Option β} (h : l.length * (b + 1) ≤ 140737488355328) : apn b l k = k := by simp only [apn]; rw [if_pos h]
theorem apx_of {α β : Type} {b : Nat} {l l' : List α} {k : List α → Option β} (h : (l.length + l'.length) * (b + 1) ≤ 140737488355328) : apx b l l' k = k (l ++ l') := by simp only [apx]; rw [if_pos h]
end Go.Proofs.Ythgcdhclommkcaa

set_option linter.unusedSimpArgs false
set_option linter.unusedVariables false
namespace Go.Proofs.Ythgcdhclommkcaa
open Go Go.Proofs Go.Abs
def strsB (l : List ByteArray) : Bool := l.all fun s => decide (s.size ≤ 64)
theorem wire_VV_L1 : ∀ (xs : List ByteArray) (v : Nat), wire_ValidValue_L1 xs v () = some (strsB xs)
  | [], v => rfl
  | x :: xs, v => by
    have ih := wire_VV_L1 xs (v + 1)
    simp only [wire_ValidValue_L1, ih, strsB, List.all_cons]
    grind
def valueB (v : Value) : Bool :=
  decide (0 ≤ v.Kind) && decide (v.Kind ≤ 5) &&
  decide (v.N = 0 ∨ v.Kind = 1 ∨ (v.Kind = 2 ∧ v.N = 1)) &&
  (sEq v.S ⟨#[]⟩ || decide (v.Kind = 3)) && (decide (v.I.length = 0) || decide (v.Kind = 4)) && (decide (v.L.length = 0) || decide (v.Kind = 5)) &&
  decide (v.S.size ≤ 64) && decide (v.I.length ≤ 16) && decide (v.L.length ≤ 16) && strsB v.L
theorem wire_ValidValue_eq (N : Nat) (v : Value) : wire_ValidValue N v = some (valueB v) := by
  simp only [wire_ValidValue, wire_ValidValue_J1, wire_ValidValue_J2, wire_ValidValue_J3, wire_ValidValue_J4, wire_ValidValue_J5, wire_ValidValue_J6, wire_ValidValue_J7, wire_ValidValue_J8, wire_ValidValue_J9, wire_VV_L1, valueB]
  generalize strsB v.L = q
  generalize sEq v.S ⟨#[]⟩ = z
  cases z <;> cases q <;> simp only [ite_someB, some_eqB, ite_eqT, if_true, if_false, Bool.false_eq_true, Bool.and_eq_true, Bool.or_eq_true, Bool.not_eq_true', decide_eq_true_eq, decide_eq_false_iff_not, Bool.and_false, Bool.and_true, Bool.or_true, Bool.or_false, Bool.true_or, Bool.false_or, Bool.not_true, Bool.not_false, and_false, false_and, or_false, false_or, Classical.not_not, true_and, and_true, iff_false, false_iff, not_false_eq_true, not_true_eq_false, true_or, or_true ] <;> omega
def intsE (a b : List Int) : Bool := eqL (fun x y => decide (x = y)) a b
def strsE (a b : List ByteArray) : Bool := eqL sEq a b
def refE (a b : Ref) : Bool := sEq a.Type_ b.Type_ && sEq a.Key b.Key
def valE (a b : Value) : Bool := decide (a.Kind = b.Kind) && decide (a.N = b.N) && sEq a.S b.S && intsE a.I b.I && strsE a.L b.L
def nameB (s : ByteArray) : Bool := decide (1 ≤ s.size) && decide (s.size ≤ 32)
theorem session_validName_eq (N : Nat) (s : ByteArray) : session_validName N s = some (nameB s) := by
  simp only [session_validName, nameB, ite_someB, some_eqB, ite_eqT, if_true, if_false, Bool.false_eq_true, Bool.and_eq_true, Bool.or_eq_true, Bool.not_eq_true', decide_eq_true_eq, decide_eq_false_iff_not, Bool.and_false, Bool.and_true, Bool.or_true, Bool.or_false, Bool.true_or, Bool.false_or, Bool.not_true, Bool.not_false, and_false, false_and, or_false, false_or, Classical.not_not, true_and, and_true, iff_false, false_iff, not_false_eq_true, not_true_eq_false, true_or, or_true ] <;> omega
theorem dedup_name_eq (N : Nat) (s : ByteArray) : dedup_name N s = some (nameB s) := by
  simp only [dedup_name, nameB, ite_someB, some_eqB, ite_eqT, if_true, if_false, Bool.false_eq_true, Bool.and_eq_true, Bool.or_eq_true, Bool.not_eq_true', decide_eq_true_eq, decide_eq_false_iff_not, Bool.and_false, Bool.and_true, Bool.or_true, Bool.or_false, Bool.true_or, Bool.false_or, Bool.not_true, Bool.not_false, and_false, false_and, or_false, false_or, Classical.not_not, true_and, and_true, iff_false, false_iff, not_false_eq_true, not_true_eq_false, true_or, or_true ] <;> omega
def numB (n : Int) : Bool := decide (0 ≤ n) && decide (n ≤ 1099511627776)
theorem session_validTime_eq (N : Nat) (n : Int) : session_validTime N n = some (numB n) := by
  simp only [session_validTime, numB, ite_someB, some_eqB, ite_eqT, if_true, if_false, Bool.false_eq_true, Bool.and_eq_true, Bool.or_eq_true, Bool.not_eq_true', decide_eq_true_eq, decide_eq_false_iff_not, Bool.and_false, Bool.and_true, Bool.or_true, Bool.or_false, Bool.true_or, Bool.false_or, Bool.not_true, Bool.not_false, and_false, false_and, or_false, false_or, Classical.not_not, true_and, and_true, iff_false, false_iff, not_false_eq_true, not_true_eq_false, true_or, or_true ] <;> omega
def seqB (n : Int) : Bool := decide (1 ≤ n) && decide (n ≤ 1099511627776)
theorem dedup_number_eq (N : Nat) (n : Int) : dedup_number N n = some (seqB n) := by
  simp only [dedup_number, seqB, ite_someB, some_eqB, ite_eqT, if_true, if_false, Bool.false_eq_true, Bool.and_eq_true, Bool.or_eq_true, Bool.not_eq_true', decide_eq_true_eq, decide_eq_false_iff_not, Bool.and_false, Bool.and_true, Bool.or_true, Bool.or_false, Bool.true_or, Bool.false_or, Bool.not_true, Bool.not_false, and_false, false_and, or_false, false_or, Classical.not_not, true_and, and_true, iff_false, false_iff, not_false_eq_true, not_true_eq_false, true_or, or_true ] <;> omega
def vrefB (r : Ref) : Bool := decide (1 ≤ r.Type_.size) && decide (r.Type_.size ≤ 32) && decide (r.Key.size ≤ 32)
theorem any_not {α : Type} (p : α → Bool) (l : List α) : (l.any fun x => !p x) = !(l.all p) := by
  induction l with
  | nil => rfl
  | cons x l ih => simp [ih]
def argB (v : Value) : Bool := valueB v && !decide (v.Kind = 0)
def callB (c : ActorCall) : Bool := vrefB c.Target && nameB c.Method && decide (c.Args.length ≤ 4) && c.Args.all argB
theorem cf_args (N : Nat) (l : List Value) : slices_ContainsFunc_Value_txn_ValidCall_1 N l = some (!(l.all argB)) := by
  have h := find_loop (L := slices_IndexFunc_Value_txn_ValidCall_1_L1 N) (txn_ValidCall_1 N) (fun v => !argB v) (fun _ => rfl) (fun _ _ _ => rfl) l 0 (fun x _ => by
    simp only [txn_ValidCall_1, wire_ValidValue_eq, Option.bind_some, argB]
    by_cases h : x.Kind = 0 <;> simp [h])
  simp only [slices_ContainsFunc_Value_txn_ValidCall_1, slices_IndexFunc_Value_txn_ValidCall_1, h, Option.bind_some, findP_any, any_not]
theorem txn_ValidCall_eq (N : Nat) (c : ActorCall) : txn_ValidCall N c = some (callB c) := by
  simp only [txn_ValidCall, txn_ValidCall_J1, txn_ValidCall_J2, cf_args, Option.bind_some, Bool.not_not, callB, vrefB, nameB]
  generalize c.Args.all argB = z
  cases z <;> simp only [ite_someB, some_eqB, ite_eqT, if_true, if_false, Bool.false_eq_true, Bool.and_eq_true, Bool.or_eq_true, Bool.not_eq_true', decide_eq_true_eq, decide_eq_false_iff_not, Bool.and_false, Bool.and_true, Bool.or_true, Bool.or_false, Bool.true_or, Bool.false_or, Bool.not_true, Bool.not_false, and_false, false_and, or_false, false_or, Classical.not_not, true_and, and_true, iff_false, false_iff, not_false_eq_true, not_true_eq_false, true_or, or_true ] <;> omega
def subB (s : Submission) : Bool := nameB s.Client && decide (1 ≤ s.Seq) && decide (s.Seq ≤ 1099511627776) && decide (0 ≤ s.Acked) && decide (s.Acked < s.Seq) && decide (1 ≤ s.Calls.length) && decide (s.Calls.length ≤ 4) && (s.Atomic || decide (s.Calls.length = 1)) && s.Calls.all callB
theorem cf_calls (N : Nat) (l : List ActorCall) : slices_ContainsFunc_ActorCall_session_ValidSubmission_1 N l = some (!(l.all callB)) := by
  have h := find_loop (L := slices_IndexFunc_ActorCall_session_ValidSubmission_1_L1 N) (session_ValidSubmission_1 N) (fun v => !callB v) (fun _ => rfl) (fun _ _ _ => rfl) l 0 (fun x _ => by
    simp only [session_ValidSubmission_1, txn_ValidCall_eq, Option.bind_some])
  simp only [slices_ContainsFunc_ActorCall_session_ValidSubmission_1, slices_IndexFunc_ActorCall_session_ValidSubmission_1, h, Option.bind_some, findP_any, any_not]
theorem session_ValidSubmission_eq (N : Nat) (s : Submission) : session_ValidSubmission N s = some (subB s) := by
  simp only [session_ValidSubmission, session_ValidSubmission_J1, session_ValidSubmission_J2, session_ValidSubmission_J3, session_ValidSubmission_J4, session_validName_eq, cf_calls, Option.bind_some, Bool.not_not, subB]
  generalize s.Calls.all callB = z
  generalize nameB s.Client = b1
  generalize s.Atomic = b2
  cases z <;> cases b1 <;> cases b2 <;> simp only [ite_someB, some_eqB, ite_eqT, if_true, if_false, Bool.false_eq_true, Bool.and_eq_true, Bool.or_eq_true, Bool.not_eq_true', decide_eq_true_eq, decide_eq_false_iff_not, Bool.and_false, Bool.and_true, Bool.or_true, Bool.or_false, Bool.true_or, Bool.false_or, Bool.not_true, Bool.not_false, and_false, false_and, or_false, false_or, Classical.not_not, true_and, and_true, iff_false, false_iff, not_false_eq_true, not_true_eq_false, true_or, or_true ] <;> omega
def ackB (c : Session) : Int := match c.Open with
  | p :: _ => IntKind.i64.wrap (p.Submission_.Seq - 1)
  | [] => IntKind.i64.wrap (c.Next - 1)
theorem session_acknowledged_eq (N : Nat) (c : Session) : session_acknowledged N c = some (ackB c) := by
  obtain ⟨n, x, l⟩ := c
  cases l with
  | nil => rfl
  | cons p l =>
    have h : 0 < (((p :: l).length : Nat) : Int) := by simp only [List.length_cons]; omega
    simp only [session_acknowledged, h, if_true, ackB]
    exact gx_nat (i := 0) rfl
def pendB (c : Session) (prev : Option PendingSubmission) (p : PendingSubmission) : Bool :=
  subB p.Submission_ && sEq p.Submission_.Client c.Name && decide (p.Submission_.Seq < c.Next) && numB p.Sent && (match prev with
    | none => true
    | some q => decide (q.Submission_.Seq < p.Submission_.Seq))
def openB (c : Session) : Option PendingSubmission → List PendingSubmission → Bool
  | _, [] => true
  | q, p :: l => pendB c q p && openB c (some p) l
def prevP (l : List PendingSubmission) : Nat → Option PendingSubmission
  | 0 => none
  | v + 1 => l[v]?
theorem valid_loop (c : Session) (hc : c.Open.length ≤ 100000) (k : Option Bool) (L : List PendingSubmission → Nat → Unit → Option Bool) (h0 : ∀ v, L [] v () = k)
    (h1 : ∀ x xs v, v < c.Open.length → c.Open[v]? = some x → L (x :: xs) v () = if pendB c (prevP c.Open v) x = true then L xs (v + 1) () else some false) :
    ∀ (xs : List PendingSubmission) (v : Nat), c.Open.drop v = xs → v ≤ c.Open.length → L xs v () = if openB c (prevP c.Open v) xs = true then k else some false
  | [], v, _, _ => by rw [h0]; rfl
  | x :: xs, v, hd, hv => by
    have hlt : v < c.Open.length := by
      rcases Nat.lt_or_ge v c.Open.length with h | h
      · exact h
      · rw [List.drop_eq_nil_of_le h] at hd; cases hd
    rw [List.drop_eq_getElem_cons hlt] at hd
    simp only [List.cons.injEq] at hd
    have hx : c.Open[v]? = some x := by rw [List.getElem?_eq_getElem hlt, hd.1]
    rw [h1 x xs v hlt hx, valid_loop c hc k L h0 h1 xs (v + 1) hd.2 (by omega)]
    have hp : prevP c.Open (v + 1) = some x := hx
    rw [hp]
    simp only [openB]
    by_cases hb : pendB c (prevP c.Open v) x = true <;> simp [hb]
def valB (c : Session) : Bool := nameB c.Name && decide (1 ≤ c.Next) && decide (c.Next ≤ 1099511627776) && openB c none c.Open && decide (IntKind.i64.wrap (IntKind.i64.wrap (c.Next - 1) - ackB c) ≤ 16)
theorem session_Valid_eq (N : Nat) {c : Session} (hc : c.Open.length ≤ 100000) : session_Valid N c = some (valB c) := by
  have h := valid_loop c hc (session_Valid_J3 N c) (session_Valid_L1 (session_Valid_J3 N c) N c) (fun _ => rfl) (fun x xs v hlt hx => by
    simp only [session_Valid_L1, session_Valid_J2, session_ValidSubmission_eq, session_validTime_eq, Option.bind_some, pendB]
    cases v with
    | zero =>
      simp only [prevP]
      grind
    | succ v =>
      have e : IntKind.i64.wrap (((v + 1 : Nat) : Int) - 1) = ((v : Nat) : Int) := by rw [w64' (by omega) (by omega)]; omega
      have hy : c.Open[v]? = some c.Open[v] := List.getElem?_eq_getElem (by omega)
      have h0 : (0 : Int) < ((v + 1 : Nat) : Int) := by omega
      simp only [h0, if_true, e, gx_of hy, prevP, hy]
      grind) c.Open 0 rfl (by omega)
  simp only [session_Valid, session_Valid_J1, session_Valid_J4]
  simp only [h]
  simp only [session_Valid_J3, session_validName_eq, session_acknowledged_eq, Option.bind_some, valB, prevP]
  generalize nameB c.Name = b1
  generalize openB c none c.Open = b2
  generalize IntKind.i64.wrap (IntKind.i64.wrap (c.Next - 1) - ackB c) = n
  grind
end Go.Proofs.Ythgcdhclommkcaa

set_option linter.unusedSimpArgs false
set_option linter.unusedVariables false
namespace Go.Proofs.Ythgcdhclommkcaa
open Go Go.Proofs Go.Abs
def bdV (v : Value) : Prop := v.I.length ≤ 2000000 ∧ v.L.length ≤ 2000000
def bdVs (l : List Value) : Prop := l.length ≤ 2000000 ∧ ∀ v ∈ l, bdV v
def bdCs (l : List ActorCall) : Prop := l.length ≤ 2000000 ∧ ∀ c ∈ l, bdVs c.Args
def bdOs (l : List PendingSubmission) : Prop := l.length ≤ 1000 ∧ ∀ p ∈ l, bdCs p.Submission_.Calls
theorem valueB_bd {v : Value} (h : valueB v = true) : bdV v := by
  simp only [valueB, Bool.and_eq_true, decide_eq_true_eq] at h
  exact ⟨by omega, by omega⟩
theorem callB_bd {c : ActorCall} (h : callB c = true) : bdVs c.Args := by
  simp only [callB, Bool.and_eq_true, decide_eq_true_eq, List.all_eq_true] at h
  refine ⟨by omega, fun v hv => valueB_bd ?_⟩
  have := h.2 v hv
  simp only [argB, Bool.and_eq_true] at this
  exact this.1
theorem subB_bd {s : Submission} (h : subB s = true) : bdCs s.Calls := by
  simp only [subB, Bool.and_eq_true, decide_eq_true_eq, List.all_eq_true] at h
  exact ⟨by omega, fun c hc => callB_bd (h.2 c hc)⟩
theorem openB_bd {c : Session} : ∀ {l : List PendingSubmission} {q : Option PendingSubmission}, openB c q l = true → ∀ p ∈ l, bdCs p.Submission_.Calls
  | [], _, _, p, hp => by cases hp
  | x :: l, q, h, p, hp => by
    simp only [openB, Bool.and_eq_true] at h
    rcases List.mem_cons.1 hp with rfl | hp
    · have := h.1
      simp only [pendB, Bool.and_eq_true] at this
      exact subB_bd this.1.1.1.1
    · exact openB_bd h.2 p hp
theorem valB_bd {c : Session} (hl : c.Open.length ≤ 1000) (h : valB c = true) : bdOs c.Open := by
  simp only [valB, Bool.and_eq_true] at h
  exact ⟨hl, openB_bd h.1.2⟩
theorem clone_int {N : Nat} {l : List Int} (h : l.length ≤ 2000000) : slices_Clone_int N l = some l := apn_of (by omega)
theorem clone_string {N : Nat} {l : List ByteArray} (h : l.length ≤ 2000000) : slices_Clone_string N l = some l := apn_of (by omega)
theorem clone_Value {N : Nat} {l : List Value} (h : l.length ≤ 2000000) : slices_Clone_Value N l = some l := apn_of (by omega)
theorem clone_ActorCall {N : Nat} {l : List ActorCall} (h : l.length ≤ 2000000) : slices_Clone_ActorCall N l = some l := apn_of (by omega)
theorem clone_Pending {N : Nat} {l : List PendingSubmission} (h : l.length ≤ 2000000) : slices_Clone_PendingSubmission N l = some l := apn_of (by omega)
theorem cloneCalls_eq {N : Nat} {l : List ActorCall} (h : bdCs l) : session_cloneCalls N l = some l := by
  obtain ⟨h1, h2⟩ := h
  simp only [session_cloneCalls, clone_ActorCall h1, Option.bind_some]
  rw [clone_loop (L := session_cloneCalls_L1 N) (fun c => bdVs c.Args) (by
    intro m v l x hx hp
    simp only [session_cloneCalls_L1, gx_of hx, clone_Value hp.1, Option.bind_some]
    rw [clone_loop (L := session_cloneCalls_L2 (session_cloneCalls_L1 N m (v + 1)) l v x N) bdV (by
      intro m' v' l' y hy hq
      simp only [session_cloneCalls_L2, gx_of hx, gx_of hy, clone_int hq.1, clone_string hq.2, Option.bind_some]
      have e : l'.set v' (Value.mk y.Kind y.N y.S y.I y.L) = l' := set_same hy
      rw [e]) (x.Args.length - 0) 0 x.Args (by omega) hp.2]
    simp only [session_cloneCalls_L2]
    have e : l.set v (ActorCall.mk x.Target x.Method x.Args) = l := set_same hx
    rw [e]) (l.length - 0) 0 l (by omega) h2]
  rfl
theorem cloneSub_eq {N : Nat} {s : Submission} (h : bdCs s.Calls) : session_cloneSubmission N s = some s := by
  simp only [session_cloneSubmission, cloneCalls_eq h, Option.bind_some]
theorem clone_eq {N : Nat} {c : Session} (h : bdOs c.Open) : session_clone N c = some c := by
  obtain ⟨h1, h2⟩ := h
  simp only [session_clone, clone_Pending (show c.Open.length ≤ 2000000 by omega), Option.bind_some]
  rw [clone_loop (L := session_clone_L1 c N) (fun p => bdCs p.Submission_.Calls) (by
    intro m v l x hx hp
    simp only [session_clone_L1, gx_of hx, cloneSub_eq hp, Option.bind_some]
    have e : l.set v (PendingSubmission.mk x.Submission_ x.Sent) = l := set_same hx
    rw [e]) (c.Open.length - 0) 0 c.Open (by omega) h2]
  rfl
def callE (a b : ActorCall) : Bool := refE a.Target b.Target && sEq a.Method b.Method && eqL valE a.Args b.Args
end Go.Proofs.Ythgcdhclommkcaa

set_option linter.unusedSimpArgs false
set_option linter.unusedVariables false
namespace Go.Proofs.Ythgcdhclommkcaa
open Go Go.Proofs Go.Abs
def zS : Session := Session.mk (⟨#[]⟩) 0 []
def zM : Submission := Submission.mk (⟨#[]⟩) 0 0 false []
def newS (n : ByteArray) : Session × Int := if nameB n = true then (Session.mk n 1 [], 0) else (zS, 1)
theorem session_New_eq (N : Nat) (n : ByteArray) : session_New N n = some (newS n) := by
  simp only [session_New, session_validName_eq, Option.bind_some, newS]
  cases nameB n <;> rfl
def madeS (c : Session) (atomic : Bool) (calls : List ActorCall) : Submission := Submission.mk c.Name c.Next (ackB c) atomic calls
def submitS (c : Session) (now : Int) (atomic : Bool) (calls : List ActorCall) : Session × Submission × Int :=
  if (valB c && numB now) = true then
    if subB (madeS c atomic calls) = true then
      if c.Next = 1099511627776 ∨ IntKind.i64.wrap (IntKind.i64.wrap (c.Next - 1) - ackB c) = 16 then (zS, zM, 5)
      else (Session.mk c.Name (IntKind.i64.wrap (c.Next + 1)) (c.Open ++ [PendingSubmission.mk (madeS c atomic calls) now]), madeS c atomic calls, 0)
    else (zS, zM, 1)
  else (zS, zM, 1)
theorem session_Submit_eq (N : Nat) {c : Session} (hc : c.Open.length ≤ 900) (now : Int) (atomic : Bool) (calls : List ActorCall) : session_Submit N c now atomic calls = some (submitS c now atomic calls) := by
  simp only [session_Submit, session_Valid_eq N (show c.Open.length ≤ 100000 by omega), session_validTime_eq, Option.bind_some, session_Submit_J1, submitS]
  by_cases hv : valB c = true
  · have hb := valB_bd (show c.Open.length ≤ 1000 by omega) hv
    have hJ : session_Submit_J4 N c atomic calls now = some (if subB (madeS c atomic calls) = true then
      if c.Next = 1099511627776 ∨ IntKind.i64.wrap (IntKind.i64.wrap (c.Next - 1) - ackB c) = 16 then (zS, zM, 5)
      else (Session.mk c.Name (IntKind.i64.wrap (c.Next + 1)) (c.Open ++ [PendingSubmission.mk (madeS c atomic calls) now]), madeS c atomic calls, 0)
      else (zS, zM, 1)) := by
      simp only [session_Submit_J4, session_acknowledged_eq, session_ValidSubmission_eq, Option.bind_some]
      change (if subB (madeS c atomic calls) = true then _ else _) = _
      by_cases hs : subB (madeS c atomic calls) = true
      · have hbs := subB_bd hs
        have h3 : session_Submit_J3 N c (ackB c) atomic calls now = some (Session.mk c.Name (IntKind.i64.wrap (c.Next + 1)) (c.Open ++ [PendingSubmission.mk (madeS c atomic calls) now]), madeS c atomic calls, 0) := by
          simp only [session_Submit_J3, clone_eq hb, Option.bind_some]
          have hcs : session_cloneSubmission N (Submission.mk c.Name c.Next (ackB c) atomic calls) = some (madeS c atomic calls) := cloneSub_eq (s := madeS c atomic calls) hbs
          simp only [hcs, Option.bind_some]
          rw [apx_of (by simp only [List.length_cons, List.length_nil]; omega)]
        simp only [hs, if_true, h3, session_Submit_J2]
        by_cases h1 : c.Next = 1099511627776
        · simp only [h1, if_true, true_or]; rfl
        · by_cases h2 : IntKind.i64.wrap (IntKind.i64.wrap (c.Next - 1) - ackB c) = 16
          · simp only [h1, h2, decide_true, if_true, if_false, or_true]; rfl
          · simp [h1, h2]
      · simp only [hs, if_false]; rfl
    simp only [hJ, hv, if_true, Bool.true_and]
    cases numB now
    · simp [zS, zM]
    · simp
  · simp only [hv, if_false, if_true, Bool.false_and, Bool.false_eq_true]; rfl
def dueP (now : Int) (p : PendingSubmission) : Bool := !decide (now < IntKind.i64.wrap (p.Sent + 4))
def againM (a : Int) (s : Submission) : Submission := Submission.mk s.Client s.Seq a s.Atomic s.Calls
def againP (now a : Int) (p : PendingSubmission) : PendingSubmission := if dueP now p = true then PendingSubmission.mk (againM a p.Submission_) now else p
def resendS (c : Session) (now : Int) : Session × List Submission :=
  if (valB c && numB now) = true then (Session.mk c.Name c.Next (c.Open.map (againP now (ackB c))), (c.Open.filter (dueP now)).map fun p => againM (ackB c) p.Submission_)
  else (zS, [])
theorem resend_loop (N : Nat) (r : Session) (c : Session) (now : Int) : ∀ (suf pre : List PendingSubmission) (out : List Submission), out.length + suf.length ≤ 1000 → (∀ p ∈ suf, bdCs p.Submission_.Calls) →
    session_Resend_L1 r now N c suf.length pre.length (pre ++ suf, out) = some (Session.mk r.Name r.Next (pre ++ suf.map (againP now (ackB c))), out ++ (suf.filter (dueP now)).map fun p => againM (ackB c) p.Submission_)
  | [], pre, out, _, _ => by
    simp only [List.length_nil, session_Resend_L1, List.map_nil, List.filter_nil, List.append_nil]
  | x :: suf, pre, out, ho, hb => by
    simp only [List.length_cons] at ho
    have hx : (pre ++ x :: suf)[pre.length]? = some x := by simp
    have hb' : ∀ p ∈ suf, bdCs p.Submission_.Calls := fun p hp => hb p (List.mem_cons_of_mem _ hp)
    have hbv := hb x (by simp)
    simp only [List.length_cons, session_Resend_L1, gx_of hx, session_acknowledged_eq, Option.bind_some]
    by_cases hn : now < IntKind.i64.wrap (x.Sent + 4)
    · have hdue : dueP now x = false := by simp [dueP, hn]
      have ih := resend_loop N r c now suf (pre ++ [x]) out (by omega) hb'
      simp only [List.length_append, List.length_cons, List.length_nil, List.append_assoc, List.cons_append, List.nil_append] at ih
      rw [if_pos hn, ih, List.map_cons, List.filter_cons_of_neg (by rw [hdue]; simp)]
      simp only [againP, hdue, Bool.false_eq_true, if_false]
    · have hdue : dueP now x = true := by simp [dueP, hn]
      have hcs : session_cloneSubmission N (Submission.mk x.Submission_.Client x.Submission_.Seq (ackB c) x.Submission_.Atomic x.Submission_.Calls) = some (againM (ackB c) x.Submission_) := cloneSub_eq (s := againM (ackB c) x.Submission_) hbv
      have ih := resend_loop N r c now suf (pre ++ [PendingSubmission.mk (againM (ackB c) x.Submission_) now]) (out ++ [againM (ackB c) x.Submission_]) (by simp only [List.length_append, List.length_cons, List.length_nil]; omega) hb'
      simp only [List.length_append, List.length_cons, List.length_nil, List.append_assoc, List.cons_append, List.nil_append] at ih
      have es : (pre ++ x :: suf).set pre.length (PendingSubmission.mk (Submission.mk x.Submission_.Client x.Submission_.Seq (ackB c) x.Submission_.Atomic x.Submission_.Calls) now) = pre ++ PendingSubmission.mk (againM (ackB c) x.Submission_) now :: suf := by
        rw [List.set_append_right _ _ (Nat.le_refl _), Nat.sub_self, List.set_cons_zero]; rfl
      rw [if_neg hn, hcs, Option.bind_some, apx_of (by simp only [List.length_cons, List.length_nil]; omega), es]
      rw [Nat.zero_add] at ih
      rw [ih, List.map_cons, List.filter_cons_of_pos hdue, List.map_cons]
      simp only [againP, hdue, if_true]
theorem session_Resend_eq (N : Nat) {c : Session} (hc : c.Open.length ≤ 900) (now : Int) : session_Resend N c now = some (resendS c now) := by
  simp only [session_Resend, session_Valid_eq N (show c.Open.length ≤ 100000 by omega), session_validTime_eq, Option.bind_some, session_Resend_J1, resendS]
  by_cases hv : valB c = true
  · have hb := valB_bd (show c.Open.length ≤ 1000 by omega) hv
    have hJ : session_Resend_J2 N c now = some (Session.mk c.Name c.Next (c.Open.map (againP now (ackB c))), (c.Open.filter (dueP now)).map fun p => againM (ackB c) p.Submission_) := by
      simp only [session_Resend_J2, clone_eq hb, Option.bind_some]
      have := resend_loop N c c now c.Open [] [] (by simp only [List.length_nil]; omega) hb.2
      simpa using this
    simp only [hJ, hv, if_true, Bool.true_and]
    cases numB now
    · simp [zS, zM]
    · simp
  · simp only [hv, if_false, if_true, Bool.false_and, Bool.false_eq_true]; rfl
end Go.Proofs.Ythgcdhclommkcaa

set_option linter.unusedSimpArgs false
set_option linter.unusedVariables false
namespace Go.Proofs.Ythgcdhclommkcaa
open Go Go.Proofs Go.Abs
def repB (r : Reply) : Bool := nameB r.Client && seqB r.Seq && decide (r.Path.length = 0) && decide (0 ≤ r.Err) && decide (r.Err ≤ 27) && valueB r.Value_ && (decide (r.Err = 0) || decide (r.Value_.Kind = 0))
theorem dedup_ValidReply_eq (N : Nat) (r : Reply) : dedup_ValidReply N r = some (repB r) := by
  simp only [dedup_ValidReply, dedup_name_eq, dedup_number_eq, wire_ValidValue_eq, Option.bind_some, repB]
  generalize nameB r.Client = b1
  generalize seqB r.Seq = b2
  generalize valueB r.Value_ = b3
  cases b1 <;> cases b2 <;> cases b3 <;> simp only [ite_someB, some_eqB, ite_eqT, if_true, if_false, Bool.false_eq_true, Bool.and_eq_true, Bool.or_eq_true, Bool.not_eq_true', decide_eq_true_eq, decide_eq_false_iff_not, Bool.and_false, Bool.and_true, Bool.or_true, Bool.or_false, Bool.true_or, Bool.false_or, Bool.not_true, Bool.not_false, and_false, false_and, or_false, false_or, Classical.not_not, true_and, and_true, iff_false, false_iff, not_false_eq_true, not_true_eq_false, true_or, or_true ] <;> omega
def isSeq (n : Int) (p : PendingSubmission) : Bool := decide (p.Submission_.Seq = n)
def dropFirst {α : Type} (p : α → Bool) : List α → List α
  | [] => []
  | x :: l => if p x = true then l else x :: dropFirst p l
def acceptS (c : Session) (r : Reply) : Session × Bool :=
  if valB c = true then
    if (repB r && sEq r.Client c.Name && c.Open.any (isSeq r.Seq)) = true then (Session.mk c.Name c.Next (dropFirst (isSeq r.Seq) c.Open), true)
    else (c, false)
  else (zS, false)
theorem findP_drop {α : Type} (p : α → Bool) : ∀ (suf pre : List α), suf.any p = true → ∃ i, findP p suf pre.length = ((i : Nat) : Int) ∧ i < pre.length + suf.length ∧ (pre ++ suf).take i ++ (pre ++ suf).drop (i + 1) = pre ++ dropFirst p suf
  | [], pre, h => by simp at h
  | x :: suf, pre, h => by
    by_cases hx : p x = true
    · refine ⟨pre.length, by simp [findP, hx], by simp, ?_⟩
      simp only [dropFirst, hx, if_true]
      rw [List.take_left' rfl, List.drop_append]; simp
    · have h' : suf.any p = true := by simpa [hx] using h
      obtain ⟨i, h1, h2, h3⟩ := findP_drop p suf (pre ++ [x]) h'
      refine ⟨i, ?_, ?_, ?_⟩
      · simp only [List.length_append, List.length_cons, List.length_nil, Nat.zero_add] at h1
        simp [findP, hx, h1]
      · simp only [List.length_append, List.length_cons, List.length_nil] at h2 ⊢; omega
      · simp only [List.append_assoc, List.cons_append, List.nil_append] at h3
        simp only [dropFirst, hx, if_false]
        simpa using h3
theorem findP_none {α : Type} (p : α → Bool) : ∀ (l : List α) (v : Nat), l.any p = false → findP p l v = -1
  | [], v, _ => rfl
  | x :: l, v, h => by
    simp only [List.any_cons, Bool.or_eq_false_iff] at h
    simp [findP, h.1, findP_none p l (v + 1) h.2]
theorem session_Accept_eq (N : Nat) {c : Session} (hc : c.Open.length ≤ 900) (r : Reply) : session_Accept N c r = some (acceptS c r) := by
  simp only [session_Accept, session_Valid_eq N (show c.Open.length ≤ 100000 by omega), Option.bind_some, acceptS]
  by_cases hv : valB c = true
  · have hb := valB_bd (show c.Open.length ≤ 1000 by omega) hv
    have hi : slices_IndexFunc_PendingSubmission_session_Accept_1 N c.Open r.Client r.Seq r.Path r.Err r.Value_.Kind r.Value_.N r.Value_.S r.Value_.I r.Value_.L = some (findP (isSeq r.Seq) c.Open 0) :=
      find_loop (L := slices_IndexFunc_PendingSubmission_session_Accept_1_L1 N r.Client r.Seq r.Path r.Err r.Value_.Kind r.Value_.N r.Value_.S r.Value_.I r.Value_.L) (fun p => session_Accept_1 N p r.Client r.Seq r.Path r.Err r.Value_.Kind r.Value_.N r.Value_.S r.Value_.I r.Value_.L) (isSeq r.Seq) (fun _ => rfl) (fun _ _ _ => rfl) c.Open 0 (fun x _ => rfl)
    simp only [hv, if_true, clone_eq hb, hi, dedup_ValidReply_eq, Option.bind_some, session_Accept_J1]
    by_cases ha : c.Open.any (isSeq r.Seq) = true
    · obtain ⟨i, h1, h2, h3⟩ := findP_drop (isSeq r.Seq) c.Open [] ha
      simp only [List.length_nil, Nat.zero_add, List.nil_append] at h1 h2 h3
      have hneg : ¬ ((i : Nat) : Int) < 0 := by omega
      have hw : IntKind.i64.wrap (((i : Nat) : Int) + 1) = ((i + 1 : Nat) : Int) := by rw [w64' (by omega) (by omega)]; omega
      have hJ : session_Accept_J2 N c ((i : Nat) : Int) = some (Session.mk c.Name c.Next (dropFirst (isSeq r.Seq) c.Open), true) := by
        simp only [session_Accept_J2, hw, slices_Delete_PendingSubmission, delM]
        rw [if_pos (by simp; omega)]
        simp only [Int.toNat_natCast, Option.bind_some, h3]
      rw [h1]
      simp only [hJ, hneg, decide_false, ha, Bool.and_true]
      cases repB r <;> cases sEq r.Client c.Name <;> simp
    · have ha' : c.Open.any (isSeq r.Seq) = false := by simpa using ha
      rw [findP_none _ _ _ ha']
      simp only [ha', Bool.and_false]
      cases repB r <;> cases sEq r.Client c.Name <;> simp
  · simp only [hv, if_false, Bool.false_eq_true]; rfl
end Go.Proofs.Ythgcdhclommkcaa

set_option linter.unusedSimpArgs false
set_option linter.unusedVariables false
namespace Go.Proofs.Ythgcdhclommkcaa
open Go Go.Proofs Go.Abs
def ltP (p q : PendingSubmission) : Prop := p.Submission_.Seq < q.Submission_.Seq
def okP (n : ByteArray) (x : Int) (p : PendingSubmission) : Prop := subB p.Submission_ = true ∧ p.Submission_.Client = n ∧ p.Submission_.Seq < x ∧ 0 ≤ p.Sent ∧ p.Sent ≤ 1099511627776
theorem openB_iff (c : Session) : ∀ (l : List PendingSubmission) (q : Option PendingSubmission), openB c q l = true ↔ (∀ p ∈ l, okP c.Name c.Next p) ∧ (∀ q0 ∈ q, ∀ p ∈ l, ltP q0 p) ∧ l.Pairwise ltP
  | [], q => by simp [openB]
  | x :: l, q => by
    rw [openB, Bool.and_eq_true, openB_iff c l (some x)]
    simp only [pendB, Bool.and_eq_true, sEq_iff', decide_eq_true_eq, numB, List.pairwise_cons, List.forall_mem_cons, okP]
    cases q with
    | none =>
      constructor
      · rintro ⟨⟨⟨⟨⟨a1, a2⟩, a3⟩, a4⟩, _⟩, b1, b2, b3⟩
        exact ⟨⟨⟨a1, a2, a3, a4⟩, b1⟩, by simp, b2 x rfl, b3⟩
      · rintro ⟨⟨⟨a1, a2, a3, a4⟩, b1⟩, _, b2, b3⟩
        exact ⟨⟨⟨⟨⟨a1, a2⟩, a3⟩, a4⟩, rfl⟩, b1, fun q0 hq => by cases hq; exact b2, b3⟩
    | some q0 =>
      simp only [decide_eq_true_eq]
      constructor
      · rintro ⟨⟨⟨⟨⟨a1, a2⟩, a3⟩, a4⟩, a5⟩, b1, b2, b3⟩
        refine ⟨⟨⟨a1, a2, a3, a4⟩, b1⟩, ?_, b2 x rfl, b3⟩
        rintro q1 hq
        cases hq
        exact ⟨a5, fun p hp => Int.lt_trans a5 (b2 x rfl p hp)⟩
      · rintro ⟨⟨⟨a1, a2, a3, a4⟩, b1⟩, c1, b2, b3⟩
        exact ⟨⟨⟨⟨⟨a1, a2⟩, a3⟩, a4⟩, (c1 q0 rfl).1⟩, b1, fun q1 hq => by cases hq; exact b2, b3⟩
def ackI (x : Int) (l : List PendingSubmission) : Int := match l with
  | p :: _ => p.Submission_.Seq - 1
  | [] => x - 1
structure VS (c : Session) : Prop where
  name : nameB c.Name = true
  next : 1 ≤ c.Next ∧ c.Next ≤ 1099511627776
  subs : ∀ p ∈ c.Open, okP c.Name c.Next p
  ord : c.Open.Pairwise ltP
  win : c.Next - 1 - ackI c.Next c.Open ≤ 16
theorem subB_seq {s : Submission} (h : subB s = true) : 1 ≤ s.Seq ∧ s.Seq ≤ 1099511627776 := by
  simp only [subB, Bool.and_eq_true, decide_eq_true_eq] at h
  exact ⟨h.1.1.1.1.1.1.1.2, h.1.1.1.1.1.1.2⟩
theorem ack_eq {c : Session} (h1 : 1 ≤ c.Next ∧ c.Next ≤ 1099511627776) (h2 : ∀ p ∈ c.Open, okP c.Name c.Next p) : ackB c = ackI c.Next c.Open ∧ 0 ≤ ackI c.Next c.Open ∧ ackI c.Next c.Open < c.Next := by
  obtain ⟨n, x, l⟩ := c
  cases l with
  | nil =>
    simp only [ackB, ackI] at *
    rw [w64' (by omega) (by omega)]
    omega
  | cons p l =>
    have hp := h2 p (by simp)
    have hs := subB_seq hp.1
    have := hp.2.2.1
    simp only [ackB, ackI] at *
    rw [w64' (by omega) (by omega)]
    omega
theorem valB_iff (c : Session) : valB c = true ↔ VS c := by
  simp only [valB, Bool.and_eq_true, decide_eq_true_eq, openB_iff]
  constructor
  · rintro ⟨⟨⟨⟨h1, h2⟩, h3⟩, h4, _, h5⟩, h6⟩
    obtain ⟨e1, e2, e3⟩ := ack_eq ⟨h2, h3⟩ h4
    rw [e1, w64' (n := c.Next - 1) (by omega) (by omega), w64' (by omega) (by omega)] at h6
    exact ⟨h1, ⟨h2, h3⟩, h4, h5, h6⟩
  · rintro ⟨h1, ⟨h2, h3⟩, h4, h5, h6⟩
    obtain ⟨e1, e2, e3⟩ := ack_eq ⟨h2, h3⟩ h4
    refine ⟨⟨⟨⟨h1, h2⟩, h3⟩, h4, by simp, h5⟩, ?_⟩
    rw [e1, w64' (n := c.Next - 1) (by omega) (by omega), w64' (by omega) (by omega)]
    exact h6
theorem win_wrap {c : Session} (v : VS c) : IntKind.i64.wrap (IntKind.i64.wrap (c.Next - 1) - ackB c) = c.Next - 1 - ackI c.Next c.Open := by
  obtain ⟨e1, e2, e3⟩ := ack_eq v.next v.subs
  have := v.next
  rw [e1, w64' (n := c.Next - 1) (by omega) (by omega), w64' (by omega) (by omega)]
theorem ackI_append (x y : Int) (l : List PendingSubmission) (p : PendingSubmission) (h : p.Submission_.Seq = x) : ackI y (l ++ [p]) = ackI x l := by
  cases l <;> simp [ackI, h]
theorem submit_VS {c : Session} (v : VS c) {now : Int} {atomic : Bool} {calls : List ActorCall} (h : (submitS c now atomic calls).2.2 = 0) :
    VS (submitS c now atomic calls).1 ∧ (submitS c now atomic calls).1 = Session.mk c.Name (c.Next + 1) (c.Open ++ [PendingSubmission.mk (madeS c atomic calls) now]) ∧ 0 ≤ now ∧ now ≤ 1099511627776 := by
  unfold submitS at h ⊢
  split at h
  · rename_i h1
    rw [if_pos h1]
    split at h
    · rename_i h2
      rw [if_pos h2]
      split at h
      · cases h
      · rename_i h3
        rw [if_neg h3]
        simp only [not_or] at h3
        rw [win_wrap v] at h3
        have hn := v.next
        have hw : IntKind.i64.wrap (c.Next + 1) = c.Next + 1 := w64' (by omega) (by omega)
        simp only [Bool.and_eq_true, numB, decide_eq_true_eq] at h1
        rw [hw]
        refine ⟨⟨v.name, by simp only; omega, ?_, ?_, ?_⟩, rfl, h1.2⟩
        · intro p hp
          rcases List.mem_append.1 hp with hp | hp
          · obtain ⟨a1, a2, a3, a4⟩ := v.subs p hp
            exact ⟨a1, a2, by simp only; omega, a4⟩
          · rw [List.mem_singleton.1 hp]
            exact ⟨h2, rfl, by simp only [madeS]; omega, h1.2⟩
        · simp only
          rw [List.pairwise_append]
          refine ⟨v.ord, List.pairwise_singleton _ _, ?_⟩
          intro p hp q hq
          rw [List.mem_singleton.1 hq]
          exact (v.subs p hp).2.2.1
        · simp only
          rw [ackI_append c.Next (c.Next + 1) c.Open _ rfl]
          have := v.win
          omega
    · cases h
  · cases h
theorem againP_seq (now a : Int) (p : PendingSubmission) : (againP now a p).Submission_.Seq = p.Submission_.Seq := by
  unfold againP; split <;> rfl
theorem ackI_map (x : Int) (l : List PendingSubmission) (now a : Int) : ackI x (l.map (againP now a)) = ackI x l := by
  cases l <;> simp [ackI, againP_seq]
theorem ackI_le {x : Int} {l : List PendingSubmission} (ho : l.Pairwise ltP) {p : PendingSubmission} (hp : p ∈ l) : ackI x l < p.Submission_.Seq := by
  cases l with
  | nil => cases hp
  | cons y l =>
    simp only [ackI]
    rcases List.mem_cons.1 hp with rfl | hp
    · omega
    · have := (List.pairwise_cons.1 ho).1 p hp
      simp only [ltP] at this
      omega
theorem resend_VS {c : Session} (v : VS c) {now : Int} (hn : 0 ≤ now ∧ now ≤ 1099511627776) : VS (resendS c now).1 ∧ (resendS c now).1 = Session.mk c.Name c.Next (c.Open.map (againP now (ackB c))) := by
  have hv := (valB_iff c).2 v
  have hnum : numB now = true := by simp [numB, hn]
  unfold resendS
  rw [if_pos (by rw [hv, hnum]; rfl)]
  obtain ⟨e1, e2, e3⟩ := ack_eq v.next v.subs
  refine ⟨⟨v.name, v.next, ?_, ?_, ?_⟩, rfl⟩
  · intro p hp
    simp only [List.mem_map] at hp
    obtain ⟨q, hq, rfl⟩ := hp
    obtain ⟨a1, a2, a3, a4⟩ := v.subs q hq
    have hle := ackI_le (x := c.Next) v.ord hq
    unfold againP
    split
    · refine ⟨?_, a2, a3, hn⟩
      simp only [subB, Bool.and_eq_true, decide_eq_true_eq, againM, e1] at a1 ⊢
      obtain ⟨⟨⟨⟨⟨⟨⟨⟨b1, b2⟩, b3⟩, b4⟩, b5⟩, b6⟩, b7⟩, b8⟩, b9⟩ := a1
      exact ⟨⟨⟨⟨⟨⟨⟨⟨b1, b2⟩, b3⟩, e2⟩, hle⟩, b6⟩, b7⟩, b8⟩, b9⟩
    · exact ⟨a1, a2, a3, a4⟩
  · simp only
    rw [List.pairwise_map]
    exact v.ord.imp fun {p q} h => by simpa [ltP, againP_seq] using h
  · simp only
    rw [ackI_map]; exact v.win
theorem dropFirst_sub {α : Type} (p : α → Bool) : ∀ l : List α, (dropFirst p l).Sublist l
  | [] => List.Sublist.refl _
  | x :: l => by
    simp only [dropFirst]
    split
    · exact List.sublist_cons_self x l
    · exact (dropFirst_sub p l).cons_cons x
theorem accept_VS {c : Session} (v : VS c) (r : Reply) : VS (acceptS c r).1 ∧ (acceptS c r).1.Name = c.Name ∧ (acceptS c r).1.Next = c.Next ∧ (acceptS c r).1.Open.length ≤ c.Open.length := by
  have hv := (valB_iff c).2 v
  unfold acceptS
  rw [if_pos hv]
  split
  · have hsub := dropFirst_sub (isSeq r.Seq) c.Open
    refine ⟨⟨v.name, v.next, fun p hp => v.subs p (hsub.subset hp), v.ord.sublist hsub, ?_⟩, rfl, rfl, hsub.length_le⟩
    simp only
    have hw := v.win
    have hn := v.next
    have key : ackI c.Next c.Open ≤ ackI c.Next (dropFirst (isSeq r.Seq) c.Open) := by
      cases hd : dropFirst (isSeq r.Seq) c.Open with
      | nil =>
        have := (ack_eq v.next v.subs).2.2
        simp only [ackI]
        simp only [ackI] at this
        omega
      | cons y l =>
        have hy : y ∈ c.Open := hsub.subset (by rw [hd]; simp)
        have := ackI_le (x := c.Next) v.ord hy
        simp only [ackI] at this ⊢
        omega
    omega
  · exact ⟨v, rfl, rfl, Nat.le_refl _⟩
end Go.Proofs.Ythgcdhclommkcaa

set_option linter.unusedSimpArgs false
set_option linter.unusedVariables false
namespace Go.Proofs.Ythgcdhclommkcaa
open Go Go.Proofs Go.Abs
theorem awake34 : law34_awake 1001 = some true := by decide +kernel
def callL : List ActorCall := [ActorCall.mk (Ref.mk ⟨#[65]⟩ ⟨#[107]⟩) ⟨#[109]⟩ [Value.mk 1 1 ⟨#[]⟩ [] []]]
theorem call_eq (N : Nat) : law34_call N = some callL := rfl
def actW (a : actorgridlaw34_Act) : Prop := (0 ≤ a.Kind ∧ a.Kind ≤ 255) ∧ (0 ≤ a.Seq ∧ a.Seq ≤ 255) ∧ (0 ≤ a.After ∧ a.After ≤ 255)
theorem step_time {a : actorgridlaw34_Act} (h : actW a) {now : Int} (h0 : 0 ≤ now ∧ now ≤ 100000) : IntKind.i64.wrap (now + IntKind.i64.wrap (Int.tmod a.After 6)) = now + Int.tmod a.After 6 ∧ 0 ≤ Int.tmod a.After 6 ∧ Int.tmod a.After 6 ≤ 5 := by
  obtain ⟨_, _, h1, h2⟩ := h
  have e : Int.tmod a.After 6 = a.After % 6 := Int.tmod_eq_emod_of_nonneg h1
  have b1 : 0 ≤ a.After % 6 := Int.emod_nonneg _ (by decide)
  have b2 : a.After % 6 < 6 := Int.emod_lt_of_pos _ (by decide)
  rw [e, w64' (n := a.After % 6) (by omega) (by omega), w64' (by omega) (by omega)]
  omega
theorem new_VS : VS (Session.mk ⟨#[99]⟩ 1 []) := ⟨by decide, by decide, by simp, List.Pairwise.nil, by decide⟩
end Go.Proofs.Ythgcdhclommkcaa

set_option linter.unusedSimpArgs false
set_option linter.unusedVariables false
namespace Go.Proofs.Ythgcdhclommkcaa
open Go Go.Proofs Go.Abs
theorem ack_of {N : Nat} {c : Session} (v : VS c) (hc : c.Open.length ≤ 900) : session_Acknowledged N c = some (ackB c) := by
  simp only [session_Acknowledged, session_Valid_eq N (show c.Open.length ≤ 100000 by omega), (valB_iff c).2 v, Option.bind_some, if_true, session_acknowledged_eq]
end Go.Proofs.Ythgcdhclommkcaa

set_option linter.unusedSimpArgs false
set_option linter.unusedVariables false
namespace Go.Proofs.Ythgcdhclommkcaa
open Go Go.Proofs Go.Abs
def seqOf (p : PendingSubmission) : Int := p.Submission_.Seq
def replyN (c : Session) (a : actorgridlaw34_Act) : Int := if (IntKind.i64.wrap (c.Next - (IntKind.i64.wrap (Int.tmod a.Seq 24)))) > 1 then IntKind.i64.wrap (c.Next - (IntKind.i64.wrap (Int.tmod a.Seq 24))) else 1
theorem reply_eq (N : Nat) (c : Session) (a : actorgridlaw34_Act) : law34_reply N c a = some (replyN c a) := rfl
def Did (c : Session) (n : Int) (c' : Session) (b1 b2 : Bool) : Prop :=
  (b1 = true ∧ b2 = false ∧ c'.Next = c.Next + 1 ∧ ∃ p, seqOf p = c.Next ∧ c'.Open = c.Open ++ [p]) ∨
  (b1 = false ∧ b2 = false ∧ c'.Next = c.Next ∧ c'.Open.map seqOf = c.Open.map seqOf) ∨
  (b1 = false ∧ b2 = true ∧ c'.Next = c.Next ∧ c.Open.any (isSeq n) = true ∧ c'.Open = dropFirst (isSeq n) c.Open)
theorem play_did (N : Nat) {c : Session} (v : VS c) (hc : c.Open.length ≤ 800) {now : Int} (hn : 0 ≤ now ∧ now ≤ 1099511627776) (a : actorgridlaw34_Act) :
    ∃ c' b1 b2, law34_play N c now a = some (c', b1, b2) ∧ VS c' ∧ Did c (replyN c a) c' b1 b2 := by
  have hc9 : c.Open.length ≤ 900 := by omega
  have sub : ∃ c' b1 b2, ((law34_call N).bind fun r4 => (session_Submit N c now (decide ((Int.tmod a.Seq 2) = 0)) r4).bind fun r5 => if r5.2.2 = 0 then some (r5.1, true, false) else some (c, false, false)) = some (c', b1, b2) ∧ VS c' ∧ Did c (replyN c a) c' b1 b2 := by
    simp only [call_eq, Option.bind_some, session_Submit_eq N hc9]
    by_cases h0 : (submitS c now (decide ((Int.tmod a.Seq 2) = 0)) callL).2.2 = 0
    · obtain ⟨v', e, _⟩ := submit_VS v h0
      rw [if_pos h0]
      exact ⟨_, _, _, rfl, v', .inl ⟨rfl, rfl, by rw [e], ⟨PendingSubmission.mk (madeS c (decide (a.Seq.tmod 2 = 0)) callL) now, rfl, by rw [e]⟩⟩⟩
    · rw [if_neg h0]
      exact ⟨_, _, _, rfl, v, .inr (.inl ⟨rfl, rfl, rfl, rfl⟩)⟩
  have res : ∃ c' b1 b2, ((session_Resend N c now).bind fun r7 => some (r7.1, false, false)) = some (c', b1, b2) ∧ VS c' ∧ Did c (replyN c a) c' b1 b2 := by
    obtain ⟨v', e⟩ := resend_VS v hn
    rw [session_Resend_eq N hc9, Option.bind_some]
    refine ⟨_, _, _, rfl, v', .inr (.inl ⟨rfl, rfl, by rw [e], ?_⟩)⟩
    rw [e]
    simp only [List.map_map]
    apply List.map_congr_left
    intro p _
    exact againP_seq _ _ p
  have acc : ∃ c' b1 b2, law34_play_J2 N c a = some (c', b1, b2) ∧ VS c' ∧ Did c (replyN c a) c' b1 b2 := by
    simp only [law34_play_J2, reply_eq, Option.bind_some, session_Accept_eq N hc9]
    obtain ⟨v', e1, e2, e3⟩ := accept_VS v (Reply.mk ⟨#[99]⟩ (replyN c a) [] 0 (Value.mk 0 0 ⟨#[]⟩ [] []))
    refine ⟨_, _, _, rfl, v', ?_⟩
    unfold acceptS
    rw [if_pos ((valB_iff c).2 v)]
    split
    · rename_i h
      simp only [Bool.and_eq_true] at h
      exact .inr (.inr ⟨rfl, rfl, rfl, h.2, rfl⟩)
    · exact .inr (.inl ⟨rfl, rfl, rfl, rfl⟩)
  simp only [law34_play, law34_play_J1]
  by_cases h0 : Int.tmod a.Kind 4 = 0
  · simp only [h0, if_true]; exact sub
  · by_cases h1 : Int.tmod a.Kind 4 = 1
    · simp only [h0, h1, decide_true, if_false, if_true]; exact sub
    · by_cases h2 : Int.tmod a.Kind 4 = 2
      · simp only [h0, h1, h2, decide_false, Bool.false_eq_true, if_false, if_true]; exact res
      · simp only [h0, h1, h2, decide_false, Bool.false_eq_true, if_false]; exact acc
def AccOk (x : Int) (o : List Int) (acc : List Bool) : Prop := ∀ (s : Nat) (b : Bool), 1 ≤ s → acc[s]? = some b → (b = true ↔ ((s : Int) < x ∧ (s : Int) ∉ o))
theorem acc_submit {x : Int} {o : List Int} {acc : List Bool} (h : AccOk x o acc) : AccOk (x + 1) (o ++ [x]) acc := by
  intro s b h1 hs
  rw [h s b h1 hs]
  simp only [List.mem_append, List.mem_singleton, not_or]
  constructor
  · rintro ⟨a, b⟩; exact ⟨by omega, b, by omega⟩
  · rintro ⟨a, b, c⟩; exact ⟨by omega, b⟩
theorem acc_accept {x : Int} {o o' : List Int} {acc : List Bool} {n : Nat} (h : AccOk x o acc) (hn : (n : Int) < x) (ho : ∀ s : Int, s ∈ o' ↔ s ∈ o ∧ s ≠ n) : AccOk x o' (acc.set n true) := by
  intro s b h1 hs
  rw [List.getElem?_set] at hs
  by_cases e : n = s
  · subst e
    rw [if_pos rfl] at hs
    split at hs
    · simp only [Option.some.injEq] at hs
      subst hs
      simp only [true_iff]
      refine ⟨hn, ?_⟩
      rw [ho]; simp
    · cases hs
  · rw [if_neg e] at hs
    rw [h s b h1 hs, ho]
    constructor
    · rintro ⟨a, b⟩; exact ⟨a, fun c => b c.1⟩
    · rintro ⟨a, b⟩; exact ⟨a, fun c => b ⟨c, by omega⟩⟩
theorem mem_dropFirst {l : List PendingSubmission} (ho : l.Pairwise ltP) {n : Int} : ∀ s : Int, s ∈ (dropFirst (isSeq n) l).map seqOf ↔ s ∈ l.map seqOf ∧ s ≠ n := by
  induction l with
  | nil => simp [dropFirst]
  | cons p l ih =>
    intro s
    obtain ⟨h1, h2⟩ := List.pairwise_cons.1 ho
    by_cases hp : isSeq n p = true
    · have hpn : seqOf p = n := by simpa [isSeq, seqOf] using hp
      simp only [dropFirst, hp, if_true, List.map_cons, List.mem_cons, hpn]
      constructor
      · intro h
        refine ⟨.inr h, ?_⟩
        obtain ⟨q, hq, rfl⟩ := List.mem_map.1 h
        have := h1 q hq
        simp only [ltP] at this
        simp only [seqOf] at hpn ⊢
        omega
      · rintro ⟨h | h, hs⟩
        · exact absurd h hs
        · exact h
    · have hpn : seqOf p ≠ n := by simpa [isSeq, seqOf] using hp
      have hp' : isSeq n p = false := by simpa using hp
      simp only [dropFirst, hp', Bool.false_eq_true, if_false, List.map_cons, List.mem_cons, ih h2 s]
      constructor
      · rintro (h | h)
        · exact ⟨.inl h, by rw [h]; exact hpn⟩
        · exact ⟨.inr h.1, h.2⟩
      · rintro ⟨h | h, hs⟩
        · exact .inl h
        · exact .inr ⟨h, hs⟩
theorem once_scan (r : Int) (acc : List Bool) (k : Option Bool) (hr : r ≤ 1000) (h : ∀ s : Nat, 1 ≤ s → (s : Int) ≤ r → acc[s]? = some true) : ∀ (n : Nat) (s : Nat), 1 ≤ s → r < n + s → law34_SessionOnce_L2 r acc k (n + 1) (s : Int) = k
  | 0, s, h1, hn => by
    have : ¬ ((s : Nat) : Int) ≤ r := by omega
    simp only [law34_SessionOnce_L2, this, if_false]
  | n + 1, s, h1, hn => by
    rw [law34_SessionOnce_L2]
    by_cases hs : ((s : Nat) : Int) ≤ r
    · have hw : IntKind.i64.wrap (((s : Nat) : Int) + 1) = ((s + 1 : Nat) : Int) := by rw [w64' (by omega) (by omega)]; omega
      rw [if_pos hs, gx_of (h s h1 hs), if_pos rfl, hw]
      exact once_scan r acc k hr h n (s + 1) (by omega) (by omega)
    · rw [if_neg hs]
theorem mem_seqs {c : Session} (v : VS c) {s : Int} (h : s ∈ c.Open.map seqOf) : 1 ≤ s ∧ s < c.Next ∧ ackI c.Next c.Open < s := by
  obtain ⟨p, hp, rfl⟩ := List.mem_map.1 h
  have h1 := v.subs p hp
  exact ⟨(subB_seq h1.1).1, h1.2.2.1, ackI_le v.ord hp⟩
theorem ackI_seqs {x : Int} {l l' : List PendingSubmission} (h : l'.map seqOf = l.map seqOf) : ackI x l' = ackI x l := by
  cases l <;> cases l' <;> simp_all [ackI, seqOf]
theorem did_ack {c c' : Session} (v : VS c) (v' : VS c') {n : Int} {b1 b2 : Bool} (h : Did c n c' b1 b2) : ackI c.Next c.Open ≤ ackI c'.Next c'.Open := by
  rcases h with ⟨_, _, hx, p, hp, ho⟩ | ⟨_, _, hx, ho⟩ | ⟨_, _, hx, _, ho⟩
  · have e : ackI c'.Next c'.Open = ackI c.Next c.Open := by rw [ho, ackI_append c.Next c'.Next c.Open p hp]
    omega
  · rw [hx, ackI_seqs ho]; exact Int.le_refl _
  · have hsub := dropFirst_sub (isSeq n) c.Open
    have hk := (ack_eq v.next v.subs).2.2
    cases hd : c'.Open with
    | nil => show _ ≤ c'.Next - 1; omega
    | cons y l =>
      have hy : y ∈ c.Open := hsub.subset (by rw [← ho, hd]; simp)
      have := ackI_le (x := c.Next) v.ord hy
      simp only [ackI] at this ⊢
      omega
theorem once_end {c' : Session} (v' : VS c') (hc : c'.Open.length ≤ 800) (hx : c'.Next ≤ 200) {acc : List Bool} (ha : AccOk c'.Next (c'.Open.map seqOf) acc) (hl : c'.Next < acc.length) {low : Int} (hlow : low ≤ ackI c'.Next c'.Open) {made : Int} (hm : made = c'.Next - 1)
    (rec : (ByteArray × Int × List PendingSubmission × List Bool × Int × Int × Int) → Option Bool) (b1 b2 : Bool) (now : Int) (x : actorgridlaw34_Act) (r : Bool)
    (hr : rec (c'.Name, c'.Next, c'.Open, acc, made, IntKind.i64.wrap (now + IntKind.i64.wrap (Int.tmod x.After 6)), ackI c'.Next c'.Open) = some r) :
    law34_SessionOnce_J8 1001 (c', b1, b2) low made rec now x acc = some r := by
  obtain ⟨e1, e2, e3⟩ := ack_eq v'.next v'.subs
  have hnx := v'.next
  have hwin := v'.win
  have hA : session_Acknowledged 1001 c' = some (ackI c'.Next c'.Open) := by rw [ack_of v' (by omega), e1]
  have get : ∀ s : Nat, 1 ≤ s → (s : Int) < c'.Next → ∃ b, acc[s]? = some b := fun s _ hs => ⟨acc[s]'(by omega), List.getElem?_eq_getElem (by omega)⟩
  have hw1 : IntKind.i64.wrap (c'.Next - 1) = c'.Next - 1 := w64' (by omega) (by omega)
  have hw2 : IntKind.i64.wrap (c'.Next - 1 - ackI c'.Next c'.Open) = c'.Next - 1 - ackI c'.Next c'.Open := w64' (by omega) (by omega)
  have hscan := once_scan (ackI c'.Next c'.Open) acc (law34_SessionOnce_J6 (ackI c'.Next c'.Open) made acc rec (c', b1, b2) now x) (by omega) (by
    intro s h1 hs
    obtain ⟨b, hb⟩ := get s h1 (by omega)
    rw [hb]
    have := (ha s b h1 hb).2 ⟨by omega, fun hmem => by have := mem_seqs v' hmem; omega⟩
    rw [this]) 1000 1 (by omega) (by omega)
  have h16 : ¬ (16 : Int) < c'.Next - 1 - ackI c'.Next c'.Open := by omega
  subst hm
  simp only [law34_SessionOnce_J8, hA, Option.bind_some, hw1, hw2, if_true, h16, decide_false]
  rw [if_neg (by omega)]
  simp only [law34_SessionOnce_J3, Bool.false_eq_true, if_false, law34_SessionOnce_J7]
  have h1c : ((1 : Nat) : Int) = 1 := rfl
  rw [h1c] at hscan
  rw [hscan]
  simp only [law34_SessionOnce_J6]
  have hw3 : IntKind.i64.wrap (ackI c'.Next c'.Open + 1) = (((ackI c'.Next c'.Open + 1).toNat : Nat) : Int) := by rw [w64' (by omega) (by omega)]; omega
  by_cases hk : ackI c'.Next c'.Open < c'.Next - 1
  · rw [if_pos hk, hw3]
    obtain ⟨b, hb⟩ := get (ackI c'.Next c'.Open + 1).toNat (by omega) (by omega)
    have hmem : (((ackI c'.Next c'.Open + 1).toNat : Nat) : Int) ∈ c'.Open.map seqOf := by
      cases ho : c'.Open with
      | nil => rw [ho] at hk; simp only [ackI] at hk; omega
      | cons p l =>
        have : (((ackI c'.Next (p :: l) + 1).toNat : Nat) : Int) = seqOf p := by
          rw [ho] at e2
          simp only [ackI, seqOf] at e2 ⊢; omega
        rw [this]; simp
    have hbf : b = false := by
      cases hbb : b with
      | false => rfl
      | true => exact absurd hmem ((ha _ b (by omega) hb).1 hbb).2
    rw [gx_of hb, hbf]
    simp only [law34_SessionOnce_J4, Bool.false_eq_true, if_false, law34_SessionOnce_J5]
    exact hr
  · rw [if_neg hk]
    simp only [law34_SessionOnce_J4, Bool.false_eq_true, if_false, law34_SessionOnce_J5]
    exact hr
theorem once_loop (L : Nat) (hL : L ≤ 120) : ∀ (xs : List actorgridlaw34_Act) (v : Nat) (c : Session) (acc : List Bool) (now : Int), (∀ a ∈ xs, actW a) → VS c → c.Open.length ≤ v → c.Next ≤ 1 + v → v + xs.length = L → acc.length = L + 3 → 0 ≤ now ∧ now ≤ 5 * (v : Int) → AccOk c.Next (c.Open.map seqOf) acc →
    law34_SessionOnce_L1 1001 xs v (c.Name, c.Next, c.Open, acc, c.Next - 1, now, ackI c.Next c.Open) = some true
  | [], v, c, acc, now, _, _, _, _, _, _, _, _ => rfl
  | x :: xs, v, c, acc, now, hw, hv, hl, hx, hb, hla, hn, ha => by
    simp only [List.length_cons] at hb
    obtain ⟨e1, e2, e3⟩ := step_time (hw x (by simp)) (now := now) (by omega)
    have hc : c.Open.length ≤ 800 := by omega
    have hnx := hv.next
    rw [law34_SessionOnce_L1]
    change ((law34_reply 1001 c x).bind _) = _
    rw [reply_eq, Option.bind_some]
    change ((law34_play 1001 c _ x).bind _) = _
    obtain ⟨c', b1, b2, hp, v', hd⟩ := play_did 1001 hv hc (now := now + Int.tmod x.After 6) (by omega) x
    rw [e1, hp, Option.bind_some]
    have hmono := did_ack hv v' hd
    have next : ∀ acc', acc'.length = L + 3 → AccOk c'.Next (c'.Open.map seqOf) acc' → c'.Next ≤ 2 + v → c'.Open.length ≤ v + 1 → law34_SessionOnce_J8 1001 (c', b1, b2) (ackI c.Next c.Open) (c'.Next - 1) (law34_SessionOnce_L1 1001 xs (v + 1)) now x acc' = some true := by
      intro acc' h1 h2 h3 h4
      refine once_end v' (by omega) (by omega) h2 (by omega) hmono rfl _ b1 b2 now x true ?_
      simp only [e1]
      exact once_loop L hL xs (v + 1) c' acc' (now + Int.tmod x.After 6) (fun a h => hw a (List.mem_cons_of_mem _ h)) v' h4 (by omega) (by omega) h1 (by omega) h2
    rcases hd with ⟨rfl, rfl, hx', p, hp', ho⟩ | ⟨rfl, rfl, hx', ho⟩ | ⟨rfl, rfl, hx', hany, ho⟩
    · have hw1 : IntKind.i64.wrap (c.Next - 1 + 1) = c'.Next - 1 := by rw [w64' (by omega) (by omega)]; omega
      simp only [if_true, law34_SessionOnce_J9, Bool.false_eq_true, if_false, hw1]
      refine next acc hla ?_ (by omega) (by rw [ho]; simp; omega)
      rw [hx', ho, List.map_append, List.map_cons, List.map_nil, hp']
      exact acc_submit ha
    · have hc1 : c.Next - 1 = c'.Next - 1 := by omega
      simp only [law34_SessionOnce_J9, Bool.false_eq_true, if_false]
      rw [hc1]
      refine next acc hla ?_ (by omega) ?_
      · rw [hx', ho]; exact ha
      · have := congrArg List.length ho
        simp only [List.length_map] at this
        omega
    · have hc1 : c.Next - 1 = c'.Next - 1 := by omega
      simp only [law34_SessionOnce_J9, Bool.false_eq_true, if_false, if_true]
      rw [hc1]
      obtain ⟨q, hq, hqs⟩ := List.any_eq_true.1 hany
      have hqn : seqOf q = replyN c x := by simpa [isSeq, seqOf] using hqs
      have hmem : replyN c x ∈ c.Open.map seqOf := by rw [← hqn]; exact List.mem_map_of_mem hq
      obtain ⟨m1, m2, m3⟩ := mem_seqs hv hmem
      obtain ⟨n, hnn⟩ : ∃ n : Nat, replyN c x = (n : Int) := ⟨(replyN c x).toNat, by omega⟩
      rw [hnn] at hmem m1 m2 m3 hany ho ⊢
      have hlt : n < acc.length := by omega
      have hg : acc[n]? = some acc[n] := List.getElem?_eq_getElem hlt
      have hf : acc[n] = false := by
        cases hbb : acc[n] with
        | false => rfl
        | true => exact absurd hmem ((ha n _ (by omega) hg).1 hbb).2
      rw [if_neg (by omega), gx_of hg, hf]
      simp only [law34_SessionOnce_J1, Bool.false_eq_true, if_false, law34_SessionOnce_J2]
      rw [gx_of hg]
      refine next (acc.set n true) (by simp [hla]) ?_ (by omega) (by
        rw [ho]
        have := (dropFirst_sub (isSeq (n : Int)) c.Open).length_le
        omega)
      rw [hx', ho]
      exact acc_accept ha (by omega) (mem_dropFirst hv.ord)
theorem plain_SessionOnce (xs : List actorgridlaw34_Act) (h : ∀ a ∈ xs, actW a) : law34_SessionOnce 1001 xs = some true := by
  simp only [law34_SessionOnce, awake34, Option.bind_some, if_true]
  by_cases hl : 120 < ((xs.length : Nat) : Int)
  · simp [hl]
  · rw [if_neg hl]
    have hn : session_New 1001 ⟨#[99]⟩ = some (Session.mk ⟨#[99]⟩ 1 [], 0) := by
      rw [session_New_eq]; rfl
    have hw : IntKind.i64.wrap (((xs.length : Nat) : Int) + 3) = ((xs.length + 3 : Nat) : Int) := by rw [w64' (by omega) (by omega)]; omega
    rw [hn, Option.bind_some, if_pos rfl, hw]
    unfold mkx
    rw [if_pos ⟨by omega, by simp only [Int.toNat_natCast]; omega⟩, Int.toNat_natCast]
    exact once_loop xs.length (by omega) xs 0 (Session.mk ⟨#[99]⟩ 1 []) (List.replicate (xs.length + 3) false) 0 h new_VS (by simp) (by simp) (by omega) (by simp) (by omega) (by
      intro s b h1 hs
      rw [List.getElem?_replicate] at hs
      split at hs
      · simp only [Option.some.injEq] at hs
        subst hs
        simp
        omega
      · cases hs)
end Go.Proofs.Ythgcdhclommkcaa
