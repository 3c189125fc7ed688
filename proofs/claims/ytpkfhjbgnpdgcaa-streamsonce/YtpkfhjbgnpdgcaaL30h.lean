/- Streams: subscribe, unsubscribe, trim, pending, acknowledge. -/
import Derived.Test.YtpkfhjbgnpdgcaaL30g
set_option linter.unusedSimpArgs false
set_option linter.unusedVariables false
namespace Go.Proofs.Ytpkfhjbgnpdgcaa
open Go Go.Proofs Go.Abs

abbrev noT : Topic := ⟨⟨#[]⟩, 0, [], []⟩

theorem subscribe_eq (N : Nat) {t : Topic} (h : VT t) (a : Ref) (m : ByteArray) : streams_Subscribe N t a m =
    some (if keyB a m = false then (noT, 1) else if hasK t.Subs (keyR a m) = true then (noT, 7) else if t.Subs.length = 8 then (noT, 5)
      else (⟨t.Name, t.First, t.Events, insS t.Subs ⟨a, m, t.First + t.Events.length⟩⟩, 0)) := by
  have hs := h.sl
  have hp := plc_le t.Subs (keyR a m)
  simp only [streams_Subscribe, valid_eq, (VB_iff t).2 h, Option.bind_some, if_true, validKey_eq, streams_Subscribe_J1, streams_Subscribe_J2, find_eq, end_eq N h, clone_eq N h]
  cases hk : keyB a m
  · simp
  · cases hh : hasK t.Subs (keyR a m)
    · by_cases h8 : t.Subs.length = 8
      · simp [h8]
      · have h8' : ¬ (t.Subs.length : Int) = 8 := by omega
        simp only [h8, h8', if_false, Bool.not_true, Bool.false_eq_true, reduceCtorEq, slices_Insert_Sub, insM]
        rw [if_pos ⟨by omega, by omega, rfl, by omega⟩]
        rfl
    · simp

theorem insS_len (l : List Sub) (s : Sub) : (insS l s).length = l.length + 1 := by
  unfold insS
  have := plc_le l (keyS s)
  simp; omega

theorem subscribe_VT {t : Topic} (h : VT t) (a : Ref) (m : ByteArray) (h1 : keyB a m = true) (h2 : hasK t.Subs (keyR a m) = false) (h3 : ¬ t.Subs.length = 8) :
    VT ⟨t.Name, t.First, t.Events, insS t.Subs ⟨a, m, t.First + t.Events.length⟩⟩ := by
  refine ⟨h.name, h.f0, h.ev, h.f1, ?_, fun s hs => ?_, insS_sorted h.so h2⟩
  · have := h.sl
    simp only [insS_len]; omega
  · rcases insS_mem.1 hs with rfl | hs
    · refine ⟨h1, ?_, ?_⟩ <;> simp only <;> omega
    · exact h.sk s hs

theorem hasK_iff : ∀ {l : List Sub} (hp : l.Pairwise fun a b => cmpK (keyS a) (keyS b) < 0) {s : Sub}, s ∈ l → l[plc l (keyS s)]? = some s ∧ hasK l (keyS s) = true
  | x :: xs, hp, s, hs => by
    rw [List.pairwise_cons] at hp
    rw [List.mem_cons] at hs
    by_cases hx : cmpK (keyS x) (keyS s) < 0
    · have hs' : s ∈ xs := by
        rcases hs with rfl | hs
        · exact absurd hx (cmpK_irrefl _)
        · exact hs
      have hl : ltK (keyS s) x = true := by simp [ltK, hx]
      have e : plc (x :: xs) (keyS s) = plc xs (keyS s) + 1 := by simp [plc, List.takeWhile_cons, hl]
      obtain ⟨h1, h2⟩ := hasK_iff hp.2 hs'
      refine ⟨by rw [e]; simpa using h1, ?_⟩
      unfold hasK; rw [e]; simp [h1]
    · have hs' : s = x := by
        rcases hs with rfl | hs
        · rfl
        · exact absurd (hp.1 s hs) hx
      subst hs'
      have hl : ltK (keyS s) s = false := by simp [ltK, hx]
      have e : plc (s :: xs) (keyS s) = 0 := by simp [plc, List.takeWhile_cons, hl]
      refine ⟨by rw [e]; simp, ?_⟩
      unfold hasK; rw [e]; simp

theorem hasK_some {l : List Sub} {k : K3} (h : hasK l k = true) : ∃ s, l[plc l k]? = some s ∧ keyS s = k := by
  unfold hasK at h
  split at h
  · rename_i s hs; exact ⟨s, hs, of_decide_eq_true h⟩
  · cases h

theorem unsubscribe_eq (N : Nat) {t : Topic} (h : VT t) (a : Ref) (m : ByteArray) : streams_Unsubscribe N t a m =
    some (if hasK t.Subs (keyR a m) = true then (⟨t.Name, t.First, t.Events, t.Subs.take (plc t.Subs (keyR a m)) ++ t.Subs.drop (plc t.Subs (keyR a m) + 1)⟩, 0) else (noT, 6)) := by
  have hs := h.sl
  simp only [streams_Unsubscribe, valid_eq, (VB_iff t).2 h, Option.bind_some, if_true, find_eq, clone_eq N h]
  cases hh : hasK t.Subs (keyR a m)
  · simp
  · obtain ⟨s, hs1, _⟩ := hasK_some hh
    have hlt := (List.getElem?_eq_some_iff.1 hs1).1
    simp only [if_true, slices_Delete_Sub, delM]
    rw [w64 (by omega) (by omega), if_pos ⟨by omega, by omega, by omega⟩]
    simp only [Option.bind_some, Int.toNat_natCast]
    congr 1

theorem del_sublist {α : Type} (l : List α) (p : Nat) : (l.take p ++ l.drop (p + 1)).Sublist l := by
  conv => rhs; rw [← List.take_append_drop p l]
  exact List.Sublist.append (List.Sublist.refl _) (by rw [← List.drop_drop]; exact List.drop_sublist _ _)

theorem unsubscribe_VT {t : Topic} (h : VT t) (p : Nat) : VT ⟨t.Name, t.First, t.Events, t.Subs.take p ++ t.Subs.drop (p + 1)⟩ := by
  have hs := del_sublist t.Subs p
  exact ⟨h.name, h.f0, h.ev, h.f1, Nat.le_trans hs.length_le h.sl, fun s hx => h.sk s (hs.subset hx), h.so.sublist hs⟩

theorem mem_del {α : Type} {l : List α} {p : Nat} {x y : α} (hx : x ∈ l) (hy : l[p]? = some y) (hne : x ≠ y) : x ∈ l.take p ++ l.drop (p + 1) := by
  have hlt := (List.getElem?_eq_some_iff.1 hy).1
  rw [← List.take_append_drop p l, List.mem_append, List.drop_eq_getElem_cons hlt, List.mem_cons] at hx
  rw [List.mem_append]
  rcases hx with hx | rfl | hx
  · exact .inl hx
  · have := (List.getElem?_eq_some_iff.1 hy).2
    exact absurd this hne
  · exact .inr hx

/-- Trim: the least cursor, or the end. -/
def minC (e : Int) (l : List Sub) : Int := l.foldl (fun m s => if s.Cursor < m then s.Cursor else m) e

theorem trim_L1 (kx : Int → Option Topic) : ∀ (l : List Sub) (i : Nat) (m : Int), streams_Trim_L1 kx l i m = kx (minC m l)
  | [], i, m => rfl
  | x :: xs, i, m => by rw [streams_Trim_L1, trim_L1 kx xs]; rfl

theorem minC_le : ∀ (l : List Sub) (e f : Int), (∀ s ∈ l, f ≤ s.Cursor) → f ≤ e → f ≤ minC e l ∧ minC e l ≤ e ∧ ∀ s ∈ l, minC e l ≤ s.Cursor
  | [], e, f, h, he => by simp [minC, he]
  | x :: xs, e, f, h, he => by
    have ih := minC_le xs (if x.Cursor < e then x.Cursor else e) f (fun s hs => h s (List.mem_cons_of_mem _ hs)) (by have := h x (by simp); split <;> omega)
    have e' : minC e (x :: xs) = minC (if x.Cursor < e then x.Cursor else e) xs := rfl
    rw [e']
    by_cases hc : x.Cursor < e
    · rw [if_pos hc] at ih ⊢
      refine ⟨ih.1, by omega, fun s hs => ?_⟩
      rcases List.mem_cons.1 hs with rfl | hs
      · exact ih.2.1
      · exact ih.2.2 s hs
    · rw [if_neg hc] at ih ⊢
      refine ⟨ih.1, ih.2.1, fun s hs => ?_⟩
      rcases List.mem_cons.1 hs with rfl | hs
      · omega
      · exact ih.2.2 s hs

theorem trim_eq (N : Nat) {t : Topic} (h : VT t) : streams_Trim N t =
    some ⟨t.Name, minC (t.First + t.Events.length) t.Subs, t.Events.drop (minC (t.First + t.Events.length) t.Subs - t.First).toNat, t.Subs⟩ := by
  have a1 := h.f0; have a2 := h.f1; have a3 := h.ev
  obtain ⟨b1, b2, b3⟩ := minC_le t.Subs (t.First + t.Events.length) t.First (fun s hs => (h.sk s hs).2.1) (by omega)
  simp only [streams_Trim, valid_eq, (VB_iff t).2 h, Option.bind_some, if_true, end_eq N h, trim_L1, streams_Trim_J1, clone_eq N h]
  rw [w64 (by omega) (by omega)]
  generalize minC (t.First + t.Events.length) t.Subs = m at *
  unfold slx
  rw [if_pos ⟨by omega, by omega, by omega, by omega⟩]
  have e : List.take (((t.Events.length : Nat) : Int).toNat - (m - t.First).toNat) (List.drop (m - t.First).toNat t.Events) = List.drop (m - t.First).toNat t.Events :=
    List.take_of_length_le (by simp)
  rw [e]
  show apn 8 _ _ = _
  rw [apn_ok (by simp; omega)]

theorem trim_VT {t : Topic} (h : VT t) : VT ⟨t.Name, minC (t.First + t.Events.length) t.Subs, t.Events.drop (minC (t.First + t.Events.length) t.Subs - t.First).toNat, t.Subs⟩ := by
  have a1 := h.f0; have a2 := h.f1; have a3 := h.ev
  obtain ⟨b1, b2, b3⟩ := minC_le t.Subs (t.First + t.Events.length) t.First (fun s hs => (h.sk s hs).2.1) (by omega)
  refine ⟨h.name, by simp only; omega, by simp only [List.length_drop]; omega, by simp only [List.length_drop]; omega, h.sl, fun s hs => ?_, h.so⟩
  have c1 := h.sk s hs
  have c2 := b3 s hs
  simp only [List.length_drop]
  exact ⟨c1.1, c2, by omega⟩

/-- What is pending. -/
def pen (t : Topic) (s : Sub) : List Delivery :=
  if s.Cursor < t.First + t.Events.length then [⟨s.Target, s.Method, s.Cursor, (t.Events[(s.Cursor - t.First).toNat]?).getD 0⟩] else []

theorem pending_L1 (N : Nat) {t : Topic} (h : VT t) : ∀ (l : List Sub) (i : Nat) (acc : List Delivery), (∀ s ∈ l, s ∈ t.Subs) → acc.length + l.length ≤ 8 →
    streams_Pending_L1 N t l i acc = some (acc ++ l.flatMap (pen t))
  | [], i, acc, hm, hl => by simp [streams_Pending_L1]
  | x :: xs, i, acc, hm, hl => by
    have a1 := h.f0; have a2 := h.f1; have a3 := h.ev
    have hx := h.sk x (hm x (by simp))
    rw [streams_Pending_L1]
    simp only [end_eq N h, Option.bind_some, List.flatMap_cons]
    simp only [List.length_cons] at hl
    by_cases hc : x.Cursor < t.First + t.Events.length
    · have hlt : (x.Cursor - t.First).toNat < t.Events.length := by omega
      rw [if_pos hc, w64 (by omega) (by omega), show x.Cursor - t.First = (((x.Cursor - t.First).toNat : Nat) : Int) by omega, gx_nat (List.getElem?_eq_getElem hlt), apx_ok (by simp; omega),
        pending_L1 N h xs (i + 1) _ (fun s hs => hm s (List.mem_cons_of_mem _ hs)) (by simp; omega)]
      simp [pen, hc, hlt]
    · rw [if_neg hc, pending_L1 N h xs (i + 1) _ (fun s hs => hm s (List.mem_cons_of_mem _ hs)) (by omega)]
      simp [pen, hc]

theorem pending_eq (N : Nat) {t : Topic} (h : VT t) : streams_Pending N t = some (t.Subs.flatMap (pen t)) := by
  simp only [streams_Pending, valid_eq, (VB_iff t).2 h, Option.bind_some, if_true]
  rw [pending_L1 N h t.Subs 0 [] (fun _ h => h) (by have := h.sl; simp; omega)]
  simp

theorem mem_pending {t : Topic} (h : VT t) {d : Delivery} : d ∈ t.Subs.flatMap (pen t) ↔
    ∃ s ∈ t.Subs, s.Cursor < t.First + t.Events.length ∧ d.Target = s.Target ∧ d.Method = s.Method ∧ d.Seq = s.Cursor ∧ t.Events[(s.Cursor - t.First).toNat]? = some d.Value := by
  rw [List.mem_flatMap]
  constructor
  · rintro ⟨s, hs, hd⟩
    refine ⟨s, hs, ?_⟩
    unfold pen at hd
    split at hd
    · rename_i hc
      have := h.sk s hs
      have hlt : (s.Cursor - t.First).toNat < t.Events.length := by omega
      simp only [List.mem_singleton] at hd
      subst hd
      exact ⟨hc, rfl, rfl, rfl, by simp [hlt]⟩
    · simp at hd
  · rintro ⟨s, hs, hc, e1, e2, e3, e4⟩
    refine ⟨s, hs, ?_⟩
    unfold pen
    rw [if_pos hc, List.mem_singleton, e4]
    cases d
    simp_all

theorem ack_eq (N : Nat) {t : Topic} (h : VT t) {s : Sub} (hs : s ∈ t.Subs) (hc : s.Cursor < t.First + t.Events.length) : streams_Ack N t s.Target s.Method s.Cursor =
    some (⟨t.Name, t.First, t.Events, t.Subs.set (plc t.Subs (keyS s)) ⟨s.Target, s.Method, s.Cursor + 1⟩⟩, 0) := by
  have a1 := h.f0; have a2 := h.f1; have a3 := h.ev
  have b := h.sk s hs
  obtain ⟨h1, h2⟩ := hasK_iff h.so hs
  have e : keyR s.Target s.Method = keyS s := rfl
  simp only [streams_Ack, valid_eq, (VB_iff t).2 h, Option.bind_some, if_true, find_eq, e, h2, gx_nat h1, Int.lt_irrefl, if_false, end_eq N h, streams_Ack_J1, streams_Ack_J2, clone_eq N h]
  have : ¬ s.Cursor = t.First + t.Events.length := by omega
  simp only [this, decide_false, Bool.false_eq_true, if_false, Int.toNat_natCast]
  rw [w64 (by omega) (by omega)]

theorem pairwise_set_key {l : List Sub} {p : Nat} {s s' : Sub} (hp : l[p]? = some s) (hk : keyS s' = keyS s) (h : l.Pairwise fun a b => cmpK (keyS a) (keyS b) < 0) :
    (l.set p s').Pairwise fun a b => cmpK (keyS a) (keyS b) < 0 := by
  have e : ∀ {l : List Sub}, (l.Pairwise fun a b => cmpK (keyS a) (keyS b) < 0) ↔ (l.map keyS).Pairwise (fun a b => cmpK a b < 0) := by
    intro l; rw [List.pairwise_map]
  rw [e] at h ⊢
  have : (l.set p s').map keyS = l.map keyS := by
    rw [List.map_set, hk]
    apply List.ext_getElem?
    intro i
    rw [List.getElem?_set]
    split
    · rename_i hi; subst hi
      have hlt := (List.getElem?_eq_some_iff.1 hp).1
      simp [hlt, hp]
      exact ((List.getElem?_eq_some_iff.1 hp).2 ▸ rfl)
    · rfl
  rw [this]; exact h

theorem ack_VT {t : Topic} (h : VT t) {s : Sub} (hs : s ∈ t.Subs) (hc : s.Cursor < t.First + t.Events.length) :
    VT ⟨t.Name, t.First, t.Events, t.Subs.set (plc t.Subs (keyS s)) ⟨s.Target, s.Method, s.Cursor + 1⟩⟩ := by
  obtain ⟨h1, h2⟩ := hasK_iff h.so hs
  have b := h.sk s hs
  refine ⟨h.name, h.f0, h.ev, h.f1, by simpa using h.sl, fun x hx => ?_, pairwise_set_key h1 rfl h.so⟩
  rcases List.mem_or_eq_of_mem_set hx with hx | rfl
  · exact h.sk x hx
  · refine ⟨b.1, ?_, ?_⟩ <;> simp only <;> omega

end Go.Proofs.Ytpkfhjbgnpdgcaa
