/- Streams: a subscriber receives what is published after its subscription, each once and in order. -/
import Derived.Test.YtpkfhjbgnpdgcaaL30h
set_option linter.unusedSimpArgs false
set_option linter.unusedVariables false
namespace Go.Proofs.Ytpkfhjbgnpdgcaa
open Go Go.Proofs Go.Abs

abbrev zT : ByteArray := ⟨#[90]⟩
abbrev zK : ByteArray := ⟨#[122]⟩
abbrev zM : ByteArray := ⟨#[109]⟩
def zk : K3 := (zT, zK, zM)

structure Iv (t : Topic) (sent got : List Int) (B : Int) : Prop where
  vt : VT t
  self : ∃ s ∈ t.Subs, keyS s = zk ∧ s.Cursor = B + got.length
  uniq : ∀ s ∈ t.Subs, s.Target.Type_ = zT → keyS s = zk
  pre : got = sent.take got.length
  en : t.First + t.Events.length = B + sent.length
  ev : ∀ (i j : Nat), i < sent.length → t.First + j = B + i → t.Events[j]? = sent[i]?
  b0 : 0 ≤ B

theorem Iv.le {t : Topic} {sent got : List Int} {B : Int} (h : Iv t sent got B) : got.length ≤ sent.length := by
  have := congrArg List.length h.pre
  rw [List.length_take] at this
  omega
theorem Iv.bd {t : Topic} {sent got : List Int} {B : Int} (h : Iv t sent got B) : sent.length ≤ 1099511627776 := by
  have a := h.en; have b := h.vt.f1; have c := h.b0
  omega

theorem Iv.publish {t : Topic} {sent got : List Int} {B : Int} (h : Iv t sent got B) (h1 : ¬ t.Events.length = 64) (h2 : ¬ t.First + t.Events.length = 1099511627776) (x : Int) :
    Iv ⟨t.Name, t.First, t.Events ++ [x], t.Subs⟩ (sent ++ [x]) got B := by
  have hle := h.le
  have hen := h.en
  refine ⟨publish_VT h.vt h1 h2 x, h.self, h.uniq, ?_, ?_, ?_, h.b0⟩
  · rw [List.take_append_of_le_length hle]; exact h.pre
  · simp only [List.length_append, List.length_cons, List.length_nil]; omega
  · intro i j hi hj
    simp only [List.length_append, List.length_cons, List.length_nil] at hi hj
    by_cases hi' : i < sent.length
    · have hj' : j < t.Events.length := by omega
      have := h.ev i j hi' hj
      rw [List.getElem?_append_left hj', List.getElem?_append_left hi', this]
    · have e1 : i = sent.length := by omega
      have e2 : j = t.Events.length := by omega
      subst e1; subst e2
      simp

theorem Iv.subs {t : Topic} {sent got : List Int} {B : Int} (h : Iv t sent got B) {l : List Sub} (hv : VT ⟨t.Name, t.First, t.Events, l⟩)
    (hs : ∀ s ∈ t.Subs, keyS s = zk → s ∈ l) (hu : ∀ s ∈ l, s.Target.Type_ = zT → s ∈ t.Subs) : Iv ⟨t.Name, t.First, t.Events, l⟩ sent got B := by
  obtain ⟨s, m, k, c⟩ := h.self
  exact ⟨hv, ⟨s, hs s m k, k, c⟩, fun s hs ht => h.uniq s (hu s hs ht) ht, h.pre, h.en, h.ev, h.b0⟩

theorem Iv.trim {t : Topic} {sent got : List Int} {B : Int} (h : Iv t sent got B) :
    Iv ⟨t.Name, minC (t.First + t.Events.length) t.Subs, t.Events.drop (minC (t.First + t.Events.length) t.Subs - t.First).toNat, t.Subs⟩ sent got B := by
  obtain ⟨b1, b2, b3⟩ := minC_le t.Subs (t.First + t.Events.length) t.First (fun s hs => (h.vt.sk s hs).2.1) (by omega)
  have hv := trim_VT h.vt
  have hen := h.en
  refine ⟨hv, h.self, h.uniq, h.pre, ?_, ?_, h.b0⟩
  · simp only [List.length_drop]; omega
  · intro i j hi hj
    simp only at hj ⊢
    rw [List.getElem?_drop]
    exact h.ev i _ hi (by omega)

theorem same_of_key {l : List Sub} (hp : l.Pairwise fun a b => cmpK (keyS a) (keyS b) < 0) {a b : Sub} (ha : a ∈ l) (hb : b ∈ l) (h : keyS a = keyS b) : a = b := by
  have h1 := (hasK_iff hp ha).1
  have h2 := (hasK_iff hp hb).1
  rw [h] at h1
  exact Option.some.inj (h1.symm.trans h2)

theorem mem_set_ne {α : Type} {l : List α} {p : Nat} {x y z : α} (hx : x ∈ l) (hy : l[p]? = some y) (hne : x ≠ y) : x ∈ l.set p z := by
  obtain ⟨i, hi, he⟩ := List.getElem_of_mem hx
  have : p ≠ i := by
    rintro rfl
    rw [List.getElem?_eq_getElem hi, he] at hy
    exact hne (Option.some.inj hy)
  refine List.mem_of_getElem? (i := i) ?_
  rw [List.getElem?_set_ne this, List.getElem?_eq_getElem hi, he]

theorem Iv.ack_self {t : Topic} {sent got : List Int} {B : Int} (h : Iv t sent got B) {s : Sub} (hs : s ∈ t.Subs) (hc : s.Cursor < t.First + t.Events.length) (hk : keyS s = zk) {v : Int}
    (hv : t.Events[(s.Cursor - t.First).toNat]? = some v) :
    Iv ⟨t.Name, t.First, t.Events, t.Subs.set (plc t.Subs (keyS s)) ⟨s.Target, s.Method, s.Cursor + 1⟩⟩ sent (got ++ [v]) B := by
  obtain ⟨s0, m0, k0, c0⟩ := h.self
  have e : s0 = s := same_of_key h.vt.so m0 hs (k0.trans hk.symm)
  subst e
  have hen := h.en
  have hf := (h.vt.sk s0 hs).2.1
  have hlt : got.length < sent.length := by omega
  have hv' : sent[got.length]? = some v := by rw [← h.ev got.length (s0.Cursor - t.First).toNat hlt (by omega), hv]
  have hp := (hasK_iff h.vt.so hs).1
  have hpl := (List.getElem?_eq_some_iff.1 hp).1
  refine ⟨ack_VT h.vt hs hc, ⟨⟨s0.Target, s0.Method, s0.Cursor + 1⟩, ?_, hk, ?_⟩, ?_, ?_, h.en, h.ev, h.b0⟩
  · exact List.mem_of_getElem? (i := plc t.Subs (keyS s0)) (by rw [List.getElem?_set_self hpl])
  · simp only [List.length_append, List.length_cons, List.length_nil]; omega
  · intro x hx ht
    rcases List.mem_or_eq_of_mem_set hx with hx | rfl
    · exact h.uniq x hx ht
    · exact hk
  · rw [List.length_append, List.length_singleton, List.take_add_one, hv', ← h.pre]; rfl

theorem Iv.ack_other {t : Topic} {sent got : List Int} {B : Int} (h : Iv t sent got B) {s : Sub} (hs : s ∈ t.Subs) (hc : s.Cursor < t.First + t.Events.length) (hk : keyS s ≠ zk) :
    Iv ⟨t.Name, t.First, t.Events, t.Subs.set (plc t.Subs (keyS s)) ⟨s.Target, s.Method, s.Cursor + 1⟩⟩ sent got B := by
  obtain ⟨s0, m0, k0, c0⟩ := h.self
  have hp := (hasK_iff h.vt.so hs).1
  refine ⟨ack_VT h.vt hs hc, ⟨s0, mem_set_ne m0 hp ?_, k0, c0⟩, ?_, h.pre, h.en, h.ev, h.b0⟩
  · rintro rfl; exact hk k0
  · intro x hx ht
    rcases List.mem_or_eq_of_mem_set hx with hx | rfl
    · exact h.uniq x hx ht
    · exact h.uniq s hs ht

theorem ref_eq (N : Nat) {w : Int} (h0 : 0 ≤ w) (h1 : w ≤ 255) : ∃ k m, law30_ref N w = some (⟨⟨#[65]⟩, k⟩, m) := by
  have e1 : Int.tmod w 12 = w % 12 := Int.tmod_eq_emod_of_nonneg h0
  have w1 : IntKind.i64.wrap (w % 12) = w % 12 := w64 (by omega) (by omega)
  have e2 : Int.tdiv (w % 12) 2 = w % 12 / 2 := Int.tdiv_eq_ediv_of_nonneg (by omega)
  have w2 : IntKind.i64.wrap (w % 12 / 2) = w % 12 / 2 := w64 (by omega) (by omega)
  have w3 : IntKind.i64.wrap (w % 12 / 2 + 1) = w % 12 / 2 + 1 := w64 (by omega) (by omega)
  have e3 : Int.tmod (w % 12) 2 = w % 12 % 2 := Int.tmod_eq_emod_of_nonneg (by omega)
  have w4 : IntKind.i64.wrap (w % 12 % 2 + 1) = w % 12 % 2 + 1 := w64 (by omega) (by omega)
  have z1 : (ByteArray.mk #[97, 98, 99, 100, 101, 102]).size = 6 := rfl
  have z2 : (ByteArray.mk #[120, 121]).size = 2 := rfl
  unfold law30_ref
  rw [e1, w1, e2, w2, w3, e3, w4]
  unfold sls
  rw [if_pos ⟨by omega, by omega, by omega, by rw [z1]; omega⟩]
  simp only
  rw [if_pos ⟨by omega, by omega, by omega, by rw [z2]; omega⟩]
  exact ⟨_, _, rfl⟩

theorem gx_in {α β : Type} {l : List α} {i : Int} {k : α → Option β} (h0 : 0 ≤ i) (h1 : i < l.length) : ∃ x, x ∈ l ∧ gx l i k = k x := by
  have hlt : i.toNat < l.length := by omega
  refine ⟨l[i.toNat], List.getElem_mem hlt, ?_⟩
  rw [gx_at ⟨h0, h1⟩, List.getElem?_eq_getElem hlt]; rfl

abbrev Rec := ByteArray × Int × List Int × List Sub × List Int × List Int → Option Bool

theorem once_step (N : Nat) {t : Topic} {sent got : List Int} {B : Int} (h : Iv t sent got B) (x : actorgridlaw30_Act) (hw : 0 ≤ x.Who ∧ x.Who ≤ 255) (rec : Rec)
    (hr : ∀ t' sent' got', Iv t' sent' got' B → rec (t'.Name, t'.First, t'.Events, t'.Subs, sent', got') = some true) (k m : ByteArray) (c : Bool) :
    law30_StreamsOnce_J2 N t.Name t.First t.Events t.Subs x sent rec got (⟨⟨#[65]⟩, k⟩, m) c = some true := by
  have te : Topic.mk t.Name t.First t.Events t.Subs = t := rfl
  have hbd := h.bd
  have hle := h.le
  have hAZ : ¬ ((⟨#[65]⟩ : ByteArray) = zT) := by decide
  unfold law30_StreamsOnce_J2
  rw [te]
  by_cases hc : c = true
  · rw [if_pos hc, publish_eq N h.vt]
    by_cases h1 : t.Events.length = 64 ∨ t.First + t.Events.length = 1099511627776
    · rw [if_pos h1]
      simp only [Option.bind_some]
      rw [if_neg (by decide)]
      exact hr t sent got h
    · rw [if_neg h1]
      simp only [Option.bind_some]
      rw [if_pos trivial, apx_ok (by simp; omega)]
      exact hr ⟨t.Name, t.First, t.Events ++ [x.Value], t.Subs⟩ _ _ (h.publish (fun e => h1 (.inl e)) (fun e => h1 (.inr e)) _)
  rw [if_neg hc]
  by_cases h3 : Int.tmod x.Kind 8 = 3
  · rw [if_pos h3, subscribe_eq N h.vt]
    by_cases a1 : keyB ⟨⟨#[65]⟩, k⟩ m = false
    · rw [if_pos a1]
      simp only [Option.bind_some]
      rw [if_neg (by decide)]
      exact hr t sent got h
    rw [if_neg a1]
    by_cases a2 : hasK t.Subs (keyR ⟨⟨#[65]⟩, k⟩ m) = true
    · rw [if_pos a2]
      simp only [Option.bind_some]
      rw [if_neg (by decide)]
      exact hr t sent got h
    rw [if_neg a2]
    by_cases a3 : t.Subs.length = 8
    · rw [if_pos a3]
      simp only [Option.bind_some]
      rw [if_neg (by decide)]
      exact hr t sent got h
    rw [if_neg a3]
    simp only [Option.bind_some]
    rw [if_pos trivial]
    refine hr ⟨t.Name, t.First, t.Events, insS t.Subs ⟨⟨⟨#[65]⟩, k⟩, m, t.First + t.Events.length⟩⟩ _ _ (h.subs (subscribe_VT h.vt _ _ (by simpa using a1) (by simpa using a2) a3) ?_ ?_)
    · intro s hs _; exact insS_mem.2 (.inr hs)
    · intro s hs ht
      rcases insS_mem.1 hs with rfl | hs
      · exact absurd ht hAZ
      · exact hs
  rw [if_neg h3]
  by_cases h4 : Int.tmod x.Kind 8 = 4
  · rw [if_pos h4, unsubscribe_eq N h.vt]
    by_cases a2 : hasK t.Subs (keyR ⟨⟨#[65]⟩, k⟩ m) = true
    · rw [if_pos a2]
      simp only [Option.bind_some]
      rw [if_pos trivial]
      obtain ⟨s, hs, hk⟩ := hasK_some a2
      refine hr ⟨t.Name, t.First, t.Events, _⟩ _ _ (h.subs (unsubscribe_VT h.vt _) ?_ ?_)
      · intro y hy hyk
        refine mem_del hy hs ?_
        rintro rfl
        rw [hk] at hyk
        exact hAZ (congrArg Prod.fst hyk)
      · intro y hy _; exact (del_sublist t.Subs _).subset hy
    · rw [if_neg a2]
      simp only [Option.bind_some]
      rw [if_neg (by decide)]
      exact hr t sent got h
  rw [if_neg h4]
  by_cases h7 : Int.tmod x.Kind 8 = 7
  · rw [if_pos h7, trim_eq N h.vt]
    exact hr _ _ _ h.trim
  rw [if_neg h7, pending_eq N h.vt]
  simp only [Option.bind_some]
  by_cases hl : (((t.Subs.flatMap (pen t)).length : Nat) : Int) = 0
  · rw [if_pos hl]; exact hr t sent got h
  rw [if_neg hl, dvx_ok hl, w64 (by omega) (by omega), Int.tmod_eq_emod_of_nonneg hw.1]
  obtain ⟨d, hd, hg⟩ := gx_in (l := t.Subs.flatMap (pen t)) (i := x.Who % (((t.Subs.flatMap (pen t)).length : Nat) : Int)) (k := fun x53 : Delivery => (streams_Ack N t x53.Target x53.Method x53.Seq).bind fun r54 =>
    if r54.2 = 0 then
      if (sEq x53.Target.Type_ ⟨#[90]⟩ && sEq x53.Target.Key ⟨#[122]⟩) = true then
        apx 8 got [x53.Value] fun l56 => rec (r54.1.Name, r54.1.First, r54.1.Events, r54.1.Subs, sent, l56)
      else rec (r54.1.Name, r54.1.First, r54.1.Events, r54.1.Subs, sent, got)
    else some false) (Int.emod_nonneg _ hl) (Int.emod_lt_of_pos _ (by omega))
  rw [hg]
  obtain ⟨s, hs, hcur, e1, e2, e3, e4⟩ := (mem_pending h.vt).1 hd
  rw [e1, e2, e3, ack_eq N h.vt hs hcur]
  simp only [Option.bind_some]
  rw [if_pos trivial]
  by_cases hz : (sEq s.Target.Type_ ⟨#[90]⟩ && sEq s.Target.Key ⟨#[122]⟩) = true
  · rw [if_pos hz, apx_ok (by simp; omega)]
    rw [Bool.and_eq_true, sEq_iff, sEq_iff] at hz
    exact hr ⟨t.Name, t.First, t.Events, _⟩ _ _ (h.ack_self hs hcur (h.uniq s hs hz.1) e4)
  · rw [if_neg hz]
    refine hr ⟨t.Name, t.First, t.Events, _⟩ _ _ (h.ack_other hs hcur ?_)
    intro hk
    apply hz
    rw [Bool.and_eq_true, sEq_iff, sEq_iff]
    exact ⟨congrArg Prod.fst hk, congrArg (fun q : K3 => q.2.1) hk⟩

theorem once_L2 (kx : ByteArray → Int → List Int → List Sub → List Int → List Int → Option Bool) (N : Nat) {B : Int}
    (hk : ∀ t sent got, Iv t sent got B → kx t.Name t.First t.Events t.Subs got sent = some true) : ∀ (xs : List actorgridlaw30_Act) (v : Nat) (t : Topic) (sent got : List Int), (∀ x ∈ xs, 0 ≤ x.Who ∧ x.Who ≤ 255) → Iv t sent got B →
    law30_StreamsOnce_L2 kx N xs v (t.Name, t.First, t.Events, t.Subs, sent, got) = some true
  | [], v, t, sent, got, hw, h => hk t sent got h
  | x :: xs, v, t, sent, got, hw, h => by
    have hx := hw x (by simp)
    obtain ⟨k, m, hr⟩ := ref_eq N hx.1 hx.2
    have st := once_step N h x hx (law30_StreamsOnce_L2 kx N xs (v + 1)) (fun t' s' g' h' => once_L2 kx N hk xs (v + 1) t' s' g' (fun y hy => hw y (List.mem_cons_of_mem _ hy)) h') k m
    rw [law30_StreamsOnce_L2, hr]
    simp only [Option.bind_some, st, ite_self]

theorem once_L3 (kx : Option Bool) (l : List Int) : ∀ (xs : List Int) (v : Nat), (∀ i a, xs[i]? = some a → l[v + i]? = some a) → law30_StreamsOnce_L3 kx l xs v () = kx
  | [], v, h => rfl
  | x :: xs, v, h => by
    have h0 := h 0 x rfl
    have hlt := (List.getElem?_eq_some_iff.1 h0).1
    rw [law30_StreamsOnce_L3, if_neg (by omega), gx_nat (by simpa using h0), law30_StreamsOnce_J3]
    simp only [decide_true, Bool.not_true, Bool.false_eq_true, if_false]
    exact once_L3 kx l xs (v + 1) (fun i a hi => by have := h (i + 1) a (by simpa using hi); rwa [show v + 1 + i = v + (i + 1) by omega])

def selfD (d : Delivery) : Bool := sEq d.Target.Type_ ⟨#[90]⟩ && sEq d.Target.Key ⟨#[122]⟩

theorem once_L4 (got sent : List Int) : ∀ (xs : List Delivery) (v : Nat) (c : Bool), (∀ d ∈ xs, selfD d = true → sent[got.length]? = some d.Value) →
    law30_StreamsOnce_L4 got sent xs v c = some (decide ((c || xs.any selfD) = decide (got.length < sent.length)))
  | [], v, c, h => by
    rw [law30_StreamsOnce_L4]
    have : decide (((got.length : Nat) : Int) < ((sent.length : Nat) : Int)) = decide (got.length < sent.length) := decide_eq_decide.2 (by omega)
    rw [this]; simp
  | x :: xs, v, c, h => by
    have ih := fun c => once_L4 got sent xs (v + 1) c (fun d hd => h d (List.mem_cons_of_mem _ hd))
    rw [law30_StreamsOnce_L4]
    by_cases hs : selfD x = true
    · have hx := h x (by simp) hs
      have hlt := (List.getElem?_eq_some_iff.1 hx).1
      have hs' := hs
      unfold selfD at hs'
      rw [if_pos hs', if_pos (by omega), gx_nat hx, ih]
      simp [hs]
    · have hs' := hs
      unfold selfD at hs'
      rw [if_neg hs', ih]
      simp [hs]

theorem once_J5 (N : Nat) {t : Topic} {sent got : List Int} {B : Int} (h : Iv t sent got B) : law30_StreamsOnce_J5 N t.Name t.First t.Events t.Subs got sent = some true := by
  have te : Topic.mk t.Name t.First t.Events t.Subs = t := rfl
  have hen := h.en
  rw [law30_StreamsOnce_J5, once_L3, law30_StreamsOnce_J4, te, pending_eq N h.vt]
  · simp only [Option.bind_some]
    rw [once_L4]
    · obtain ⟨s, m, k, c⟩ := h.self
      have hb := (h.vt.sk s m).2.1
      congr 1
      rw [decide_eq_true_eq, Bool.false_or]
      by_cases hlt : got.length < sent.length
      · rw [decide_eq_true hlt, List.any_eq_true]
        have hj : (s.Cursor - t.First).toNat < t.Events.length := by omega
        refine ⟨⟨s.Target, s.Method, s.Cursor, t.Events[(s.Cursor - t.First).toNat]⟩, (mem_pending h.vt).2 ⟨s, m, by omega, rfl, rfl, rfl, by rw [List.getElem?_eq_getElem hj]⟩, ?_⟩
        unfold selfD
        rw [Bool.and_eq_true, sEq_iff, sEq_iff]
        exact ⟨congrArg Prod.fst k, congrArg (fun q : K3 => q.2.1) k⟩
      · rw [decide_eq_false hlt, ← Bool.not_eq_true, List.any_eq_true]
        rintro ⟨d, hd, hs⟩
        obtain ⟨s', m', hc, e1, e2, e3, e4⟩ := (mem_pending h.vt).1 hd
        unfold selfD at hs
        rw [Bool.and_eq_true, sEq_iff, sEq_iff, e1] at hs
        have : s' = s := same_of_key h.vt.so m' m ((h.uniq s' m' hs.1).trans k.symm)
        subst this
        omega
    · intro d hd hs
      obtain ⟨s, m, k, c⟩ := h.self
      obtain ⟨s', m', hc, e1, e2, e3, e4⟩ := (mem_pending h.vt).1 hd
      unfold selfD at hs
      rw [Bool.and_eq_true, sEq_iff, sEq_iff, e1] at hs
      have : s' = s := same_of_key h.vt.so m' m ((h.uniq s' m' hs.1).trans k.symm)
      subst this
      have hb := (h.vt.sk s' m).2.1
      rw [← h.ev got.length (s'.Cursor - t.First).toNat (by omega) (by omega), e4]
  · intro i a hi
    rw [Nat.zero_add]
    have hlt := (List.getElem?_eq_some_iff.1 hi).1
    rw [h.pre, List.getElem?_take, if_pos hlt] at hi
    exact hi

theorem once_L1 (kx : ByteArray → Int → List Int → List Sub → Int → Option Bool) (N : Nat) : ∀ (xs : List Int) (v : Nat) (t : Topic), VT t → t.First = 0 → t.Events.length + xs.length ≤ 60 →
    law30_StreamsOnce_L1 kx N xs v (t.Name, t.First, t.Events, t.Subs, 0) = kx t.Name t.First (t.Events ++ xs) t.Subs 0
  | [], v, t, h, hf, hl => by rw [law30_StreamsOnce_L1, List.append_nil]
  | x :: xs, v, t, h, hf, hl => by
    have te : Topic.mk t.Name t.First t.Events t.Subs = t := rfl
    simp only [List.length_cons] at hl
    have h1 : ¬ t.Events.length = 64 := by omega
    have h2 : ¬ t.First + t.Events.length = 1099511627776 := by omega
    rw [law30_StreamsOnce_L1, if_pos rfl, te, publish_eq N h, if_neg (by omega)]
    simp only [Option.bind_some]
    rw [once_L1 kx N xs (v + 1) ⟨t.Name, t.First, t.Events ++ [x], t.Subs⟩ (publish_VT h h1 h2 x) hf (by simp; omega)]
    simp

theorem plain_StreamsOnce (xs : List Int) (ls : List actorgridlaw30_Act) (hw : ∀ x ∈ ls, 0 ≤ x.Who ∧ x.Who ≤ 255) : law30_StreamsOnce 3 xs ls = some true := by
  have haw : law30_awake 3 = some true := by decide +kernel
  rw [law30_StreamsOnce, haw]
  simp only [Option.bind_some, if_true]
  by_cases h1 : (60 : Int) < (xs.length : Int)
  · rw [if_pos h1]; rfl
  rw [if_neg h1, law30_StreamsOnce_J1]
  by_cases h2 : (150 : Int) < (ls.length : Int)
  · simp [h2]
  simp only [h2, decide_false, Bool.false_eq_true, if_false]
  rw [law30_StreamsOnce_J7, streams_New, validName_eq]
  have hn : nameB ⟨#[116]⟩ = true := by decide
  simp only [Option.bind_some, hn, if_true]
  have v0 : VT ⟨⟨#[116]⟩, 0, [], []⟩ := ⟨hn, by decide, by decide, by decide, by decide, by simp, List.Pairwise.nil⟩
  rw [once_L1 _ 3 xs 0 ⟨⟨#[116]⟩, 0, [], []⟩ v0 rfl (by simp; omega)]
  have v1 : VT ⟨⟨#[116]⟩, 0, xs, []⟩ := ⟨hn, by simp, by simp only; omega, by simp only; omega, by simp, by simp, List.Pairwise.nil⟩
  have kz : keyB ⟨⟨#[90]⟩, ⟨#[122]⟩⟩ ⟨#[109]⟩ = true := by decide
  have hh : hasK [] (keyR ⟨⟨#[90]⟩, ⟨#[122]⟩⟩ ⟨#[109]⟩) = false := rfl
  simp only [List.nil_append, law30_StreamsOnce_J6, if_true]
  rw [subscribe_eq 3 v1, if_neg (by rw [kz]; decide), if_neg (by rw [hh]; decide), if_neg (by simp)]
  simp only [Option.bind_some]
  rw [if_pos trivial]
  refine once_L2 _ 3 (B := xs.length) (fun t s g h => once_J5 3 h) ls 0 ⟨⟨#[116]⟩, 0, xs, insS [] ⟨⟨⟨#[90]⟩, ⟨#[122]⟩⟩, ⟨#[109]⟩, 0 + xs.length⟩⟩ [] [] hw ?_
  have v2 := subscribe_VT v1 ⟨⟨#[90]⟩, ⟨#[122]⟩⟩ ⟨#[109]⟩ kz hh (by simp)
  refine ⟨v2, ⟨_, insS_mem.2 (.inl rfl), rfl, by simp⟩, ?_, rfl, by simp, by simp, by omega⟩
  intro s hs _
  rcases insS_mem.1 hs with rfl | hs
  · rfl
  · simp at hs

end Go.Proofs.Ytpkfhjbgnpdgcaa
