/- Plain facts on the models; no program in sight. -/
import Derived.Test.YtjpeiibeemmdfaaM
set_option linter.unusedSimpArgs false
set_option linter.unusedVariables false
namespace Go.Proofs.Ytjpeiibeemmdfaa
open Go Go.Proofs Go.Abs
theorem w64 {n : Int} (h1 : -9223372036854775808 ≤ n) (h2 : n ≤ 9223372036854775807) : IntKind.i64.wrap n = n := wrap64_in h1 h2
abbrev W64 := BitVec 64
def U (b : W64) : Int := (b.toNat : Int)
theorem U_lt (b : W64) : 0 ≤ U b ∧ U b < 18446744073709551616 := by
  have := b.isLt
  unfold U; omega
theorem U_inj {a b : W64} (h : U a = U b) : a = b := BitVec.eq_of_toNat_eq (by unfold U at h; omega)
theorem wrapU (n : Int) : IntKind.u64.wrap n = U (BitVec.ofInt 64 n) := by
  have e : IntKind.u64.wrap n = n % 18446744073709551616 := by
    simp [IntKind.wrap, IntKind.bits, IntKind.signed]
  rw [e]
  unfold U
  rw [BitVec.toNat_ofInt]
  have := Int.emod_nonneg n (show (18446744073709551616 : Int) ≠ 0 by decide)
  show n % 18446744073709551616 = ((n % (2 ^ 64 : Nat)).toNat : Int)
  have e2 : ((2 ^ 64 : Nat) : Int) = 18446744073709551616 := by decide
  rw [e2]; omega
theorem ofU (b : W64) : BitVec.ofInt 64 (U b) = b := by
  unfold U
  rw [BitVec.ofInt_natCast, BitVec.ofNat_toNat, BitVec.setWidth_eq]
theorem shrU (b : W64) (s : Nat) (hs : s ≤ 64) : shrI .u64 (U b) (s : Int) = U (b >>> s) := by
  unfold shrI U
  rw [BitVec.toNat_ushiftRight, Nat.shiftRight_eq_div_pow]
  have e : min ((s : Int)).toNat (IntKind.bits .u64) = s := by
    show min ((s : Int)).toNat 64 = s
    omega
  rw [e, Int.fdiv_eq_ediv_of_nonneg _ (by exact Int.le_of_lt (Int.pow_pos (by decide)))]
  norm_cast
def c1 : W64 := 13787848793156543929
def c2 : W64 := 10723151780598845931
def cg : W64 := 11400714819323198485
def xsr (s : Nat) (x : W64) : W64 := x ^^^ (x >>> s)
def mixB (x : W64) : W64 := xsr 31 (xsr 27 (xsr 30 x * c1) * c2)
def posB (ring id : Int) : W64 := mixB (BitVec.ofInt 64 ring + cg * (BitVec.ofInt 64 id + 1))
theorem xsr_inj {s : Nat} (hs : 0 < s) {x y : W64} (h : xsr s x = xsr s y) : x = y := by
  unfold xsr at h
  have hz : (x ^^^ y) = (x ^^^ y) >>> s := by
    rw [BitVec.ushiftRight_xor_distrib]
    have : (x ^^^ (x >>> s)) ^^^ (y ^^^ (x >>> s)) = (y ^^^ (y >>> s)) ^^^ (y ^^^ (x >>> s)) := by rw [h]
    have e1 : (x ^^^ (x >>> s)) ^^^ (y ^^^ (x >>> s)) = x ^^^ y := by
      rw [BitVec.xor_comm y, ← BitVec.xor_assoc, BitVec.xor_assoc x, BitVec.xor_self, BitVec.xor_zero]
    have e2 : (y ^^^ (y >>> s)) ^^^ (y ^^^ (x >>> s)) = x >>> s ^^^ y >>> s := by
      rw [BitVec.xor_comm y (y >>> s), ← BitVec.xor_assoc, BitVec.xor_assoc (y >>> s), BitVec.xor_self, BitVec.xor_zero, BitVec.xor_comm]
    rw [← e1, this, e2]
  have h0 : x ^^^ y = BitVec.ofNat 64 0 := by
    apply BitVec.eq_of_toNat_eq
    have h1 := congrArg BitVec.toNat hz
    rw [BitVec.toNat_ushiftRight, Nat.shiftRight_eq_div_pow] at h1
    generalize (x ^^^ y).toNat = n at h1
    show n = 0
    have h2 : 2 ≤ 2 ^ s := by
      have := Nat.pow_le_pow_right (show 0 < 2 by decide) hs
      simpa using this
    rcases Nat.eq_zero_or_pos n with hn | hn
    · exact hn
    · have := Nat.div_lt_self hn (show 1 < 2 ^ s by omega)
      omega
  have := congrArg (· ^^^ y) h0
  simpa [BitVec.xor_assoc] using this
theorem mul_inj {c d : W64} (hcd : c * d = 1) {x y : W64} (h : x * c = y * c) : x = y := by
  have := congrArg (· * d) h
  simpa [BitVec.mul_assoc, hcd] using this
theorem mixB_inj {x y : W64} (h : mixB x = mixB y) : x = y := by
  unfold mixB at h
  have h1 := xsr_inj (by decide) h
  have h2 := mul_inj (c := c2) (d := 3573116690164977347) (by decide) h1
  have h3 := xsr_inj (by decide) h2
  have h4 := mul_inj (c := c1) (d := 10871156337175269513) (by decide) h3
  exact xsr_inj (by decide) h4
theorem ofInt_inj {a b : Int} (ha : 0 ≤ a) (ha' : a < 18446744073709551616) (hb : 0 ≤ b) (hb' : b < 18446744073709551616) (h : BitVec.ofInt 64 a = BitVec.ofInt 64 b) : a = b := by
  have := congrArg BitVec.toNat h
  rw [BitVec.toNat_ofInt, BitVec.toNat_ofInt] at this
  have e2 : ((2 ^ 64 : Nat) : Int) = 18446744073709551616 := by decide
  rw [e2, Int.emod_eq_of_lt ha ha', Int.emod_eq_of_lt hb hb'] at this
  omega
theorem posB_inj {ring a b : Int} (ha : 0 ≤ a) (ha' : a ≤ 1000) (hb : 0 ≤ b) (hb' : b ≤ 1000) (h : posB ring a = posB ring b) : a = b := by
  have h1 := mixB_inj h
  have h2 : cg * (BitVec.ofInt 64 a + 1) = cg * (BitVec.ofInt 64 b + 1) := by
    rw [BitVec.add_comm (BitVec.ofInt 64 ring), BitVec.add_comm (BitVec.ofInt 64 ring)] at h1
    have := congrArg (fun z => z - BitVec.ofInt 64 ring) h1
    simpa only [BitVec.add_sub_cancel] using this
  rw [BitVec.mul_comm cg, BitVec.mul_comm cg] at h2
  have h3 := mul_inj (c := cg) (d := 17428512612931826493) (by decide) h2
  have h4 : BitVec.ofInt 64 a = BitVec.ofInt 64 b := by
    have := congrArg (fun z => z - BitVec.ofNat 64 1) h3
    simpa using this
  exact ofInt_inj ha (by omega) hb (by omega) h4
end Go.Proofs.Ytjpeiibeemmdfaa

set_option linter.unusedSimpArgs false
set_option linter.unusedVariables false
namespace Go.Proofs.Ytjpeiibeemmdfaa
open Go Go.Proofs Go.Abs
def fw (p : Int → Int) (a m : Int) : Int := (p m - p a - 1) % 18446744073709551616
structure Ring (p : Int → Int) (l : List Int) : Prop where
  rg : ∀ z, 0 ≤ p z ∧ p z < 18446744073709551616
  inj : ∀ x ∈ l, ∀ y ∈ l, p x = p y → x = y
def IsSub (p : Int → Int) (l : List Int) (a s : Int) : Prop := s ∈ l ∧ ∀ m ∈ l, fw p a s ≤ fw p a m
def IsObs (p : Int → Int) (l : List Int) (x a : Int) : Prop := a ∈ l ∧ ∀ m ∈ l, fw p a x ≤ fw p m x
variable {p : Int → Int} {l : List Int}
theorem sub_uniq (h : Ring p l) {a s s' : Int} (h1 : IsSub p l a s) (h2 : IsSub p l a s') : s = s' := by
  refine h.inj s h1.1 s' h2.1 ?_
  have a1 := h1.2 s' h2.1
  have a2 := h2.2 s h1.1
  have := h.rg a; have := h.rg s; have := h.rg s'
  unfold fw at *
  omega
theorem obs_uniq (h : Ring p l) {x a a' : Int} (h1 : IsObs p l x a) (h2 : IsObs p l x a') : a = a' := by
  refine h.inj a h1.1 a' h2.1 ?_
  have a1 := h1.2 a' h2.1
  have a2 := h2.2 a h1.1
  have := h.rg a; have := h.rg x; have := h.rg a'
  unfold fw at *
  omega
theorem obs_of_sub (h : Ring p l) {a s : Int} (ha : a ∈ l) (h1 : IsSub p l a s) : IsObs p l s a := by
  refine ⟨ha, fun m hm => ?_⟩
  have a1 := h1.2 m hm
  have := h.rg a; have := h.rg s; have := h.rg m
  unfold fw at *
  by_cases e : p m = p a
  · rw [e]; exact Int.le_refl _
  · omega
theorem sub_of_obs (h : Ring p l) {x a : Int} (hx : x ∈ l) (h1 : IsObs p l x a) : IsSub p l a x := by
  refine ⟨hx, fun m hm => ?_⟩
  have a1 := h1.2 m hm
  have := h.rg a; have := h.rg x; have := h.rg m
  unfold fw at *
  by_cases e : p m = p x
  · rw [e]; exact Int.le_refl _
  · omega
theorem sub_ne (h : Ring p l) {a s m : Int} (h1 : IsSub p l a s) (hm : m ∈ l) (hne : p m ≠ p a) : s ≠ a := by
  rintro rfl
  have a1 := h1.2 m hm
  have := h.rg m; have := h.rg s
  unfold fw at *
  omega
theorem obs_ne (h : Ring p l) {x a m : Int} (h1 : IsObs p l x a) (hm : m ∈ l) (hne : p m ≠ p x) : a ≠ x := by
  rintro rfl
  have a1 := h1.2 m hm
  have := h.rg m; have := h.rg a
  unfold fw at *
  omega
theorem sub_of_order {o : List Int} (hs : o.Pairwise fun a b => p a < p b) (hrg : ∀ z, 0 ≤ p z ∧ p z < 18446744073709551616) {i : Nat} (hi : i < o.length) (h2 : 2 ≤ o.length) :
    IsSub p o o[i] (o[(i + 1) % o.length]'(Nat.mod_lt _ (by omega))) := by
  have hlt : ∀ a b, (ha : a < o.length) → (hb : b < o.length) → a < b → p o[a] < p o[b] := fun a b ha hb hab => List.pairwise_iff_getElem.1 hs a b ha hb hab
  refine ⟨List.getElem_mem _, fun m hm => ?_⟩
  obtain ⟨j, hj, rfl⟩ := List.getElem_of_mem hm
  have r1 := hrg o[i]; have r2 := hrg o[j]
  by_cases hn : i + 1 < o.length
  · have e : (i + 1) % o.length = i + 1 := Nat.mod_eq_of_lt hn
    simp only [e]
    have r3 := hrg (o[i + 1]'hn)
    have h3 := hlt i (i + 1) hi hn (by omega)
    rcases Nat.lt_trichotomy j (i + 1) with q | q | q
    · have h4 : p o[j] ≤ p o[i] := by
        rcases Nat.lt_or_ge j i with z | z
        · exact Int.le_of_lt (hlt j i hj hi z)
        · have : j = i := by omega
          subst this; exact Int.le_refl _
      unfold fw; omega
    · subst q; exact Int.le_refl _
    · have h4 := hlt (i + 1) j hn hj q
      unfold fw; omega
  · have e : (i + 1) % o.length = 0 := by
      have : i + 1 = o.length := by omega
      rw [this]; exact Nat.mod_self _
    simp only [e]
    have h0 : 0 < o.length := by omega
    have r3 := hrg (o[0]'h0)
    have h3 := hlt 0 i h0 hi (by omega)
    have h4 : p (o[0]'h0) ≤ p o[j] := by
      rcases Nat.eq_zero_or_pos j with z | z
      · subst z; exact Int.le_refl _
      · exact Int.le_of_lt (hlt 0 j h0 hj z)
    have h5 : p o[j] ≤ p o[i] := by
      rcases Nat.lt_or_ge j i with z | z
      · exact Int.le_of_lt (hlt j i hj hi z)
      · have : j = i := by omega
        subst this; exact Int.le_refl _
    unfold fw; omega
end Go.Proofs.Ytjpeiibeemmdfaa

set_option linter.unusedSimpArgs false
set_option linter.unusedVariables false
namespace Go.Proofs.Ytjpeiibeemmdfaa
open Go Go.Proofs Go.Abs
theorem x30 (b : W64) : IntKind.u64.wrap ((BitVec.ofInt (IntKind.bits .u64) (U b) ^^^ BitVec.ofInt (IntKind.bits .u64) (shrI .u64 (U b) 30)).toNat) = U (xsr 30 b) := by
  show IntKind.u64.wrap (((BitVec.ofInt 64 (U b) ^^^ BitVec.ofInt 64 (shrI .u64 (U b) ((30 : Nat) : Int))).toNat : Nat) : Int) = _
  rw [shrU b 30 (by decide), ofU, ofU, wrapU]
  exact congrArg U (ofU _)
theorem x27 (b : W64) : IntKind.u64.wrap ((BitVec.ofInt (IntKind.bits .u64) (U b) ^^^ BitVec.ofInt (IntKind.bits .u64) (shrI .u64 (U b) 27)).toNat) = U (xsr 27 b) := by
  show IntKind.u64.wrap (((BitVec.ofInt 64 (U b) ^^^ BitVec.ofInt 64 (shrI .u64 (U b) ((27 : Nat) : Int))).toNat : Nat) : Int) = _
  rw [shrU b 27 (by decide), ofU, ofU, wrapU]
  exact congrArg U (ofU _)
theorem x31 (b : W64) : IntKind.u64.wrap ((BitVec.ofInt (IntKind.bits .u64) (U b) ^^^ BitVec.ofInt (IntKind.bits .u64) (shrI .u64 (U b) 31)).toNat) = U (xsr 31 b) := by
  show IntKind.u64.wrap (((BitVec.ofInt 64 (U b) ^^^ BitVec.ofInt 64 (shrI .u64 (U b) ((31 : Nat) : Int))).toNat : Nat) : Int) = _
  rw [shrU b 31 (by decide), ofU, ofU, wrapU]
  exact congrArg U (ofU _)
theorem m1 (b : W64) : IntKind.u64.wrap (U b * 13787848793156543929) = U (b * c1) := by
  rw [wrapU, BitVec.ofInt_mul, ofU]; rfl
theorem m2 (b : W64) : IntKind.u64.wrap (U b * 10723151780598845931) = U (b * c2) := by
  rw [wrapU, BitVec.ofInt_mul, ofU]; rfl
theorem mix_eq (N : Nat) (hN : 1 ≤ N) (b : W64) : hashing_Mix N (U b) = some (U (mixB b)) := by
  obtain ⟨n, rfl⟩ : ∃ n, N = n + 1 := ⟨N - 1, by omega⟩
  simp only [hashing_Mix, brN, hashing_shifts, hashing_factors, Option.bind_some]
  rw [x30, m1, x27, m2, x31]
  rfl
theorem pos_eq (N : Nat) (hN : 1 ≤ N) (k id : Int) : hashing_Position N k id = some (U (posB k id)) := by
  have e : IntKind.u64.wrap (IntKind.u64.wrap k + (IntKind.u64.wrap (11400714819323198485 * (IntKind.u64.wrap (IntKind.u64.wrap id + 1))))) = U (BitVec.ofInt 64 k + cg * (BitVec.ofInt 64 id + 1)) := by
    rw [wrapU k, wrapU id, wrapU (U _ + 1), wrapU (11400714819323198485 * U _), wrapU (U _ + U _), BitVec.ofInt_add, BitVec.ofInt_add, BitVec.ofInt_mul, ofU, ofU, ofU, ofU]; rfl
  simp only [hashing_Position, hashing_Combine, e, mix_eq N hN, Option.bind_some]
  rfl
def pos (k id : Int) : Int := U (posB k id)
theorem pos_rg (k id : Int) : 0 ≤ pos k id ∧ pos k id < 18446744073709551616 := U_lt _
theorem pos_inj {k a b : Int} (ha : 1 ≤ a ∧ a ≤ 1000) (hb : 1 ≤ b ∧ b ≤ 1000) (h : pos k a = pos k b) : a = b := posB_inj (by omega) ha.2 (by omega) hb.2 (U_inj h)
theorem u64_mod (n : Int) : IntKind.u64.wrap n = n % 18446744073709551616 := by simp [IntKind.wrap, IntKind.bits, IntKind.signed]
def risB : Int → List Int → Bool
  | _, [] => true
  | p, x :: xs => decide (p < x) && decide (x ≤ 1000) && risB x xs
theorem risB_iff : ∀ (l : List Int) (p : Int), risB p l = true ↔ (∀ x ∈ l, p < x ∧ x ≤ 1000) ∧ l.Pairwise (· < ·)
  | [], p => by simp [risB]
  | x :: xs, p => by
    simp only [risB, Bool.and_eq_true, decide_eq_true_eq, risB_iff xs x, List.mem_cons, forall_eq_or_imp, List.pairwise_cons]
    constructor
    · rintro ⟨⟨a, b⟩, c, d⟩
      exact ⟨⟨⟨a, b⟩, fun y hy => ⟨by have := (c y hy).1; omega, (c y hy).2⟩⟩, fun y hy => (c y hy).1, d⟩
    · rintro ⟨⟨⟨a, b⟩, c⟩, d, e⟩
      exact ⟨⟨a, b⟩, fun y hy => ⟨d y hy, (c y hy).2⟩, e⟩
structure VM (l : List Int) : Prop where
  l1 : 1 ≤ l.length
  l2 : l.length ≤ 16
  rg : ∀ x ∈ l, 1 ≤ x ∧ x ≤ 1000
  so : l.Pairwise (· < ·)
theorem VM_of {l : List Int} (h1 : 1 ≤ l.length) (h2 : l.length ≤ 16) (h : risB 0 l = true) : VM l := by
  obtain ⟨a, b⟩ := (risB_iff l 0).1 h
  exact ⟨h1, h2, fun x hx => by have := a x hx; omega, b⟩
theorem VM.ris {l : List Int} (h : VM l) : risB 0 l = true := (risB_iff l 0).2 ⟨fun x hx => by have := h.rg x hx; omega, h.so⟩
theorem VM.nd {l : List Int} (h : VM l) : l.Nodup := h.so.imp (fun h => by omega)
theorem VM.ring {l : List Int} (h : VM l) (k : Int) : Ring (pos k) l := ⟨pos_rg k, fun x hx y hy e => pos_inj (h.rg x hx) (h.rg y hy) e⟩
theorem isid_eq (N : Nat) (x : Int) : ref3_IsID N x = some (decide (1 ≤ x) && decide (x ≤ 1000)) := by
  unfold ref3_IsID
  by_cases h : 1 ≤ x <;> simp [h]
theorem rising_L1 (N : Nat) (l : List Int) (hl : l.length ≤ 16) : ∀ (xs : List Int) (v : Nat) (p : Int), l.drop v = xs → 0 ≤ p → (v = 0 → p = 0) → (0 < v → l[v - 1]? = some p) → ref3_Rising_L1 N l xs v () = some (risB p xs)
  | [], v, p, _, _, _, _ => rfl
  | x :: xs, v, p, hd, h0, hz, hv => by
    have hvl : v < l.length := by
      rcases Nat.lt_or_ge v l.length with h | h
      · exact h
      · rw [List.drop_eq_nil_of_le h] at hd; simp at hd
    rw [List.drop_eq_getElem_cons hvl] at hd
    simp only [List.cons.injEq] at hd
    have hx : l[v]? = some x := by rw [List.getElem?_eq_getElem hvl, hd.1]
    have ih : 0 ≤ x → ref3_Rising_L1 N l xs (v + 1) () = some (risB x xs) := fun hx0 => rising_L1 N l hl xs (v + 1) x hd.2 hx0 (by omega) (fun _ => by simpa using hx)
    rw [ref3_Rising_L1, isid_eq, Option.bind_some, risB]
    by_cases h1 : 1 ≤ x
    · have ih := ih (by omega)
      by_cases h2 : x ≤ 1000
      · simp only [h1, h2, decide_true, Bool.and_self, if_true, Bool.and_true]
        by_cases h3 : 0 < v
        · rw [if_pos (by omega), w64 (by omega) (by omega), show ((v : Int) - 1) = ((v - 1 : Nat) : Int) by omega, gx_nat (hv h3)]
          by_cases h4 : x ≤ p
          · have : ¬ p < x := by omega
            simp [h4, this, ref3_Rising_J1]
          · have : p < x := by omega
            simp [h4, this, ref3_Rising_J1, ih]
        · rw [if_neg (by omega)]
          have : p = 0 := hz (by omega)
          have : p < x := by omega
          simp [this, ref3_Rising_J1, ih]
      · simp [h1, h2, ref3_Rising_J1]
    · have : ¬ (p < x) := by omega
      simp [h1, this, ref3_Rising_J1]
def VMb (l : List Int) : Bool := decide (1 ≤ l.length) && decide (l.length ≤ 16) && risB 0 l
theorem VMb_iff {l : List Int} : VMb l = true ↔ VM l := by
  unfold VMb
  simp only [Bool.and_eq_true, decide_eq_true_eq]
  exact ⟨fun h => VM_of h.1.1 h.1.2 h.2, fun h => ⟨⟨h.l1, h.l2⟩, h.ris⟩⟩
theorem ref_valid (N : Nat) (l : List Int) : ref3_ValidMembers N l = some (VMb l) := by
  unfold ref3_ValidMembers VMb
  by_cases h1 : 1 ≤ l.length
  · rw [if_pos (by omega)]
    by_cases h2 : l.length ≤ 16
    · rw [if_pos (by omega), ref3_Rising, rising_L1 N l h2 l 0 0 rfl (by omega) (by simp) (by simp)]
      simp [h1, h2]
    · rw [if_neg (by omega)]; simp [h2]
  · rw [if_neg (by omega)]; simp [h1]
theorem ident_L1 : ∀ (xs : List Int) (v : Nat) (p : Int), view_identifiers_L1 xs v p = some (risB p xs)
  | [], v, p => rfl
  | x :: xs, v, p => by
    rw [view_identifiers_L1, risB]
    by_cases h1 : x ≤ p
    · have : ¬ p < x := by omega
      simp [h1, this, view_identifiers_J2]
    · have : p < x := by omega
      by_cases h2 : 1000 < x
      · have h2' : ¬ x ≤ 1000 := by omega
        simp [h1, this, h2, h2', view_identifiers_J2]
      · have h2' : x ≤ 1000 := by omega
        simp [h1, this, h2, h2', view_identifiers_J2, view_identifiers_J3, ident_L1 xs]
theorem view_valid (N : Nat) (l : List Int) : view_ValidMembers N l = some (VMb l) := by
  simp only [view_ValidMembers, view_identifiers]
  unfold VMb
  by_cases h1 : 1 ≤ l.length
  · rw [if_neg (by omega)]
    by_cases h2 : l.length ≤ 16
    · have : ¬ (16 : Int) < (l.length : Int) := by omega
      simp [this, view_identifiers_J1, view_identifiers_J4, ident_L1, h1, h2]
    · have : (16 : Int) < (l.length : Int) := by omega
      simp [this, view_identifiers_J1, h2]
  · rw [if_pos (by omega)]
    simp [view_identifiers_J1, h1]
theorem oident (N : Nat) (x : Int) : overlay_identifier N x = some (decide (1 ≤ x) && decide (x ≤ 1000)) := by
  unfold overlay_identifier
  by_cases h : 1 ≤ x <;> simp [h]
theorem place_eq (N : Nat) {a : Int} {o : List Int} (ha : a ∈ o) : ∃ i, o[i]? = some a ∧ view_Place N o a = some ((i : Nat) : Int) := by
  have : ∀ (xs : List Int) (v : Nat), a ∈ xs → ∃ i, xs[i]? = some a ∧ view_Place_L1 a xs v () = some ((v + i : Nat) : Int) := by
    intro xs
    induction xs with
    | nil => intro v h; simp at h
    | cons y ys ih =>
      intro v h
      by_cases e : y = a
      · exact ⟨0, by simp [e], by rw [view_Place_L1, if_pos e]; rfl⟩
      · obtain ⟨i, h1, h2⟩ := ih (v + 1) (by
          rcases List.mem_cons.1 h with q | q
          · exact absurd q.symm e
          · exact q)
        exact ⟨i + 1, by simpa using h1, by rw [view_Place_L1, if_neg e, h2]; congr 2; omega⟩
  obtain ⟨i, h1, h2⟩ := this o 0 ha
  exact ⟨i, h1, by rw [view_Place, h2, Nat.zero_add]⟩
theorem place_no (N : Nat) {a : Int} {o : List Int} (ha : a ∉ o) : view_Place N o a = some (-1) := by
  have : ∀ (xs : List Int) (v : Nat), a ∉ xs → view_Place_L1 a xs v () = some (-1) := by
    intro xs
    induction xs with
    | nil => intro v h; rfl
    | cons y ys ih =>
      intro v h
      rw [view_Place_L1, if_neg (fun e => h (by simp [e])), ih (v + 1) (fun q => h (by simp [q]))]
  exact this o 0 ha
theorem contains_eq (N : Nat) (a : Int) (o : List Int) : view_Contains N o a = some (decide (a ∈ o)) := by
  unfold view_Contains
  by_cases h : a ∈ o
  · obtain ⟨i, _, h2⟩ := place_eq N h
    rw [h2]; simp [h]
  · rw [place_no N h]; simp [h]
theorem cmpU_eq (N : Nat) (a b : Int) : cmp_Compare_uint64 N a b = some (if a < b then -1 else if b < a then 1 else 0) := by
  simp only [cmp_Compare_uint64, cmp_isNaN_uint64, Option.bind_some]
  by_cases h1 : a < b
  · simp [h1]
  · by_cases h2 : b < a <;> simp [h1, h2]
theorem order1_eq (N : Nat) (hN : 1 ≤ N) (k x y : Int) : overlay_Order_1 N x y k = some (if pos k x < pos k y then -1 else if pos k y < pos k x then 1 else 0) := by
  simp only [overlay_Order_1, pos_eq N hN, Option.bind_some, cmpU_eq]
  rfl
theorem neg_iff {a b : Int} : (if a < b then (-1 : Int) else if b < a then 1 else 0) < 0 ↔ a < b := by
  split
  · simp [*]
  · split <;> simp [*]
theorem sort_by {p : Int → Int} {c : Int → Int → Option Int} (hc : ∀ x y, c x y = some (if p x < p y then -1 else if p y < p x then 1 else 0)) {l : List Int} (hnd : l.Nodup) (hinj : ∀ x ∈ l, ∀ y ∈ l, p x = p y → x = y) (hl : l.length ≤ 16) :
    ∃ o, sortM c l = some o ∧ o.Perm l ∧ o.Pairwise fun a b => p a < p b := by
  have hlt : ∀ x y, Go.Proofs.ltOf (fun x y => (c x y).getD 0) x y = decide (p x < p y) := by
    intro x y
    simp only [Go.Proofs.ltOf, hc, Option.getD_some, neg_iff]
  obtain ⟨o, ho⟩ := sortM_ok (c := c) (l := l) (fun x y => ⟨_, hc x y⟩) ⟨fun x => by rw [hlt]; simp, fun x y z h1 h2 => by rw [hlt] at *; simp at *; omega, fun x y z h1 h2 => by rw [hlt] at *; simp at *; omega⟩ (by omega)
  obtain ⟨hp, hs⟩ := sortM_sorts ho
  refine ⟨o, ho, hp, ?_⟩
  have hnd' : o.Nodup := hp.symm.nodup hnd
  refine (hs.and hnd').imp_of_mem ?_
  intro a b ha hb hab
  obtain ⟨q1, q2⟩ := hab
  rw [hc, Option.getD_some, neg_iff] at q1
  have : p a ≠ p b := fun e => q2 (hinj a (hp.mem_iff.1 ha) b (hp.mem_iff.1 hb) e)
  omega
theorem order_eq (N : Nat) (hN : 1 ≤ N) {l : List Int} (h : VM l) {k : Int} (k0 : 0 ≤ k) (k1 : k < 5) : ∃ o, overlay_Order N l k = some o ∧ o.Perm l ∧ o.Pairwise fun a b => pos k a < pos k b := by
  have hl := h.l2
  have hl1 := h.l1
  have hne : l.isEmpty = false := by
    cases l with
    | nil => simp at hl1
    | cons x xs => rfl
  obtain ⟨o, ho, hp, hs⟩ := sort_by (order1_eq N hN k) h.nd (h.ring k).inj h.l2
  refine ⟨o, ?_, hp, hs⟩
  simp only [overlay_Order, view_valid, VMb_iff.2 h, Option.bind_some, if_true]
  rw [if_neg (by omega)]
  have : ¬ 5 ≤ k := by omega
  simp only [this, decide_false, overlay_Order_J1, Bool.false_eq_true, if_false, overlay_Order_J2, slices_Clone_int]
  rw [apn_ok (by omega)]
  simp only [Option.bind_some, slices_SortFunc_int_overlay_Order_1, hne, Bool.false_eq_true, if_false, ho]
theorem IsSub.perm {p : Int → Int} {l o : List Int} (hp : o.Perm l) {a s : Int} (h : IsSub p o a s) : IsSub p l a s := ⟨hp.mem_iff.1 h.1, fun m hm => h.2 m (hp.mem_iff.2 hm)⟩
theorem subj_step (N : Nat) (hN : 1 ≤ N) {l : List Int} (h : VM l) (h2 : 2 ≤ l.length) {a : Int} (ha : a ∈ l) {k : Int} (k0 : 0 ≤ k) (k1 : k < 5) :
    ∃ s, IsSub (pos k) l a s ∧ ∀ {β : Type} (K : Int → Option β), ((overlay_Order N l k).bind fun r => (view_Place N r a).bind fun q => dvx ((r.length : Nat) : Int) <| gx r (Int.tmod (IntKind.i64.wrap (q + 1)) ((r.length : Nat) : Int)) K) = K s := by
  obtain ⟨o, ho, hp, hs⟩ := order_eq N hN h k0 k1
  have hlen := hp.length_eq
  have hl := h.l2
  obtain ⟨i, hi, hpl⟩ := place_eq N (hp.mem_iff.2 ha)
  have hil := (List.getElem?_eq_some_iff.1 hi).1
  have hia : o[i] = a := (List.getElem?_eq_some_iff.1 hi).2
  have hmod := Nat.mod_lt (i + 1) (show o.length > 0 by omega)
  have hsub := sub_of_order hs (pos_rg k) hil (by omega)
  rw [hia] at hsub
  refine ⟨_, hsub.perm hp, fun K => ?_⟩
  rw [ho, Option.bind_some, hpl, Option.bind_some]
  unfold dvx
  rw [if_neg (by omega), w64 (by omega) (by omega)]
  have e : Int.tmod ((i : Int) + 1) ((o.length : Nat) : Int) = (((i + 1) % o.length : Nat) : Int) := by
    rw [Int.tmod_eq_emod_of_nonneg (by omega)]
    push_cast; rfl
  rw [e, gx_nat (List.getElem?_eq_getElem hmod)]
structure Five (P : Int → Int → Prop) (r : List Int) : Prop where
  ex : ∃ a b c d e, r = [a, b, c, d, e] ∧ P 0 a ∧ P 1 b ∧ P 2 c ∧ P 3 d ∧ P 4 e
theorem Five.len {P : Int → Int → Prop} {r : List Int} (h : Five P r) : r.length = 5 := by obtain ⟨a, b, c, d, e, rfl, _⟩ := h.ex; rfl
theorem Five.get {P : Int → Int → Prop} {r : List Int} (h : Five P r) {k : Int} (k0 : 0 ≤ k) (k1 : k < 5) : ∃ x, r[k.toNat]? = some x ∧ P k x := by
  obtain ⟨a, b, c, d, e, rfl, h0, h1, h2, h3, h4⟩ := h.ex
  rcases (show k = 0 ∨ k = 1 ∨ k = 2 ∨ k = 3 ∨ k = 4 by omega) with rfl | rfl | rfl | rfl | rfl
  · exact ⟨a, rfl, h0⟩
  · exact ⟨b, rfl, h1⟩
  · exact ⟨c, rfl, h2⟩
  · exact ⟨d, rfl, h3⟩
  · exact ⟨e, rfl, h4⟩
theorem Five.gx {P : Int → Int → Prop} {r : List Int} (h : Five P r) {k : Int} (k0 : 0 ≤ k) (k1 : k < 5) : ∃ x, P k x ∧ ∀ {β : Type} (K : Int → Option β), Abs.gx r k K = K x := by
  obtain ⟨x, hx, hp⟩ := h.get k0 k1
  refine ⟨x, hp, fun K => ?_⟩
  have := gx_nat (k := K) hx
  rwa [show ((k.toNat : Nat) : Int) = k by omega] at this
theorem subjects_eq (N : Nat) (hN : 1 ≤ N) {l : List Int} (h : VM l) (h2 : 2 ≤ l.length) {a : Int} (ha : a ∈ l) : ∃ r, overlay_Subjects N l a = some r ∧ Five (fun k s => IsSub (pos k) l a s) r := by
  obtain ⟨s0, p0, q0⟩ := subj_step N hN h h2 ha (k := 0) (by omega) (by omega)
  obtain ⟨s1, p1, q1⟩ := subj_step N hN h h2 ha (k := 1) (by omega) (by omega)
  obtain ⟨s2, p2, q2⟩ := subj_step N hN h h2 ha (k := 2) (by omega) (by omega)
  obtain ⟨s3, p3, q3⟩ := subj_step N hN h h2 ha (k := 3) (by omega) (by omega)
  obtain ⟨s4, p4, q4⟩ := subj_step N hN h h2 ha (k := 4) (by omega) (by omega)
  refine ⟨[s0, s1, s2, s3, s4], ?_, ⟨s0, s1, s2, s3, s4, rfl, p0, p1, p2, p3, p4⟩⟩
  have : ¬ ((l.length : Nat) : Int) = 1 := by omega
  simp only [overlay_Subjects, view_valid, VMb_iff.2 h, contains_eq, ha, decide_true, Option.bind_some, if_true, this, decide_false, overlay_Subjects_J1, Bool.false_eq_true, if_false, overlay_Subjects_J2]
  rw [q0, apn_ok (by simp), q1, apx_ok (by simp), q2, apx_ok (by simp), q3, apx_ok (by simp), q4, apx_ok (by simp)]
  rfl
theorem obs1_eq (N : Nat) (hN : 1 ≤ N) (own k x y : Int) : ∃ c, overlay_Observers_1 N x y own k = some c ∧ (c < 0 ↔ (own - pos k x - 1) % 18446744073709551616 < (own - pos k y - 1) % 18446744073709551616) := by
  simp only [overlay_Observers_1, pos_eq N hN, Option.bind_some, cmpU_eq, u64_mod]
  refine ⟨_, rfl, ?_⟩
  rw [neg_iff]
  show ((own - pos k x) % 18446744073709551616 - 1) % 18446744073709551616 < ((own - pos k y) % 18446744073709551616 - 1) % 18446744073709551616 ↔ _
  rw [Int.emod_sub_emod, Int.emod_sub_emod]
theorem min_L1 (N : Nat) (hN : 1 ≤ N) (l : List Int) (own k : Int) : ∀ (m v : Nat) (b : Int), v + m = l.length → b ∈ l → (∀ x ∈ l.take v, (own - pos k b - 1) % 18446744073709551616 ≤ (own - pos k x - 1) % 18446744073709551616) →
    ∃ r, slices_MinFunc_int_overlay_Observers_1_L1 l N own k m v b = some r ∧ r ∈ l ∧ ∀ x ∈ l, (own - pos k r - 1) % 18446744073709551616 ≤ (own - pos k x - 1) % 18446744073709551616
  | 0, v, b, hv, hb, hm => ⟨b, rfl, hb, fun x hx => hm x (by rw [List.take_of_length_le (by omega)]; exact hx)⟩
  | m + 1, v, b, hv, hb, hm => by
    have hvl : v < l.length := by omega
    have hx : l[v]? = some l[v] := List.getElem?_eq_getElem hvl
    obtain ⟨c, hc, hn⟩ := obs1_eq N hN own k l[v] b
    rw [slices_MinFunc_int_overlay_Observers_1_L1, gx_nat hx, hc, Option.bind_some]
    have ht : ∀ x, x ∈ l.take (v + 1) ↔ x ∈ l.take v ∨ x = l[v] := by
      intro x
      rw [List.take_add_one, hx, List.mem_append, Option.toList_some, List.mem_singleton]
    by_cases h : c < 0
    · rw [if_pos h]
      have h' := hn.1 h
      refine min_L1 N hN l own k m (v + 1) l[v] (by omega) (List.getElem_mem hvl) (fun x hx => ?_)
      rcases (ht x).1 hx with q | rfl
      · have := hm x q; omega
      · exact Int.le_refl _
    · rw [if_neg h]
      have h' : ¬ _ := fun q => h (hn.2 q)
      refine min_L1 N hN l own k m (v + 1) b (by omega) hb (fun x hx => ?_)
      rcases (ht x).1 hx with q | rfl
      · exact hm x q
      · omega
theorem min_eq (N : Nat) (hN : 1 ≤ N) {l : List Int} (h1 : 1 ≤ l.length) (k id : Int) : ∃ r, slices_MinFunc_int_overlay_Observers_1 N l (pos k id) k = some r ∧ IsObs (pos k) l id r := by
  have h0 : l[0]? = some l[0] := List.getElem?_eq_getElem (by omega)
  obtain ⟨r, e, hr, hm⟩ := min_L1 N hN l (pos k id) k (l.length - 1) 1 l[0] (by omega) (List.getElem_mem _) (fun x hx => by
    rw [List.take_add_one, h0] at hx
    simp only [List.take_zero, Option.toList_some, List.nil_append, List.mem_singleton] at hx
    subst hx; exact Int.le_refl _)
  refine ⟨r, ?_, hr, hm⟩
  unfold slices_MinFunc_int_overlay_Observers_1
  rw [if_neg (by omega), show ((0 : Int)) = ((0 : Nat) : Int) from rfl, gx_nat h0]
  exact e
theorem observers_eq (N : Nat) (hN : 1 ≤ N) {l : List Int} (h : VM l) {id : Int} (hid : 1 ≤ id ∧ id ≤ 1000) (hne : ¬ l = [id]) : ∃ r, overlay_Observers N l id = some r ∧ Five (fun k b => IsObs (pos k) l id b) r := by
  obtain ⟨s0, q0, p0⟩ := min_eq N hN h.l1 0 id
  obtain ⟨s1, q1, p1⟩ := min_eq N hN h.l1 1 id
  obtain ⟨s2, q2, p2⟩ := min_eq N hN h.l1 2 id
  obtain ⟨s3, q3, p3⟩ := min_eq N hN h.l1 3 id
  obtain ⟨s4, q4, p4⟩ := min_eq N hN h.l1 4 id
  refine ⟨[s0, s1, s2, s3, s4], ?_, ⟨s0, s1, s2, s3, s4, rfl, p0, p1, p2, p3, p4⟩⟩
  have hJ : overlay_Observers_J2 N id l = some [s0, s1, s2, s3, s4] := by
    have e : ∀ k, U (posB k id) = pos k id := fun _ => rfl
    simp only [overlay_Observers_J2, pos_eq N hN, Option.bind_some, e]
    rw [q0, Option.bind_some, apn_ok (by simp), q1, Option.bind_some, apx_ok (by simp), q2, Option.bind_some, apx_ok (by simp), q3, Option.bind_some, apx_ok (by simp), q4, Option.bind_some, apx_ok (by simp)]
    rfl
  have h0 := h.l1
  simp only [overlay_Observers, view_valid, VMb_iff.2 h, oident, hid.1, hid.2, decide_true, Bool.and_self, Option.bind_some, if_true]
  by_cases h1 : l.length = 1
  · rw [if_pos (by omega)]
    match l, h1, hne with
    | [x], _, hne =>
    have hx : ¬ x = id := fun q => hne (by rw [q])
    rw [show ((0 : Int)) = ((0 : Nat) : Int) from rfl, gx_nat (show ([x] : List Int)[0]? = some x from rfl)]
    simp [hx, overlay_Observers_J1, hJ]
  · rw [if_neg (by omega)]
    simp [overlay_Observers_J1, hJ]
end Go.Proofs.Ytjpeiibeemmdfaa

set_option linter.unusedSimpArgs false
set_option linter.unusedVariables false
namespace Go.Proofs.Ytjpeiibeemmdfaa
open Go Go.Proofs Go.Abs
theorem obs_alone {P : Int → Int} {a b x : Int} (h : IsObs P [a] x b) : b = a := by simpa using h.1
theorem shared_L1 (x : Int) : ∀ (xs : List Int) (v : Nat) (acc : List Int), v + xs.length ≤ 1000 → acc.length + xs.length ≤ 1000 → ∃ r, overlay_Shared_L1 x xs v acc = some r ∧ r.length = acc.length + xs.count x
  | [], v, acc, _, _ => ⟨acc, rfl, by simp⟩
  | y :: ys, v, acc, h1, h2 => by
    simp only [List.length_cons] at h1 h2
    rw [overlay_Shared_L1]
    by_cases e : y = x
    · rw [if_pos e, apx_ok (by simp only [List.length_cons, List.length_nil]; omega)]
      obtain ⟨r, q1, q2⟩ := shared_L1 x ys (v + 1) (acc ++ [((v : Nat) : Int)]) (by omega) (by simp; omega)
      exact ⟨r, q1, by rw [q2, e]; simp; omega⟩
    · rw [if_neg e]
      obtain ⟨r, q1, q2⟩ := shared_L1 x ys (v + 1) acc (by omega) (by omega)
      refine ⟨r, q1, by rw [q2, List.count_cons]; simp [e]⟩
theorem shared_eq (N : Nat) (hN : 1 ≤ N) {l : List Int} (h : VM l) {x m : Int} (hx : 1 ≤ x ∧ x ≤ 1000) (hm : 1 ≤ m ∧ m ≤ 1000) (hne : ¬ l = [m]) :
    ∃ b r, Five (fun k b => IsObs (pos k) l m b) b ∧ overlay_Shared N l x m = some r ∧ r.length = b.count x := by
  obtain ⟨b, e, hb⟩ := observers_eq N hN h hm hne
  obtain ⟨r, q1, q2⟩ := shared_L1 x b 0 [] (by rw [hb.len]; omega) (by rw [hb.len]; simp)
  refine ⟨b, r, hb, ?_, by simpa using q2⟩
  simp only [overlay_Shared, oident, hx.1, hx.2, decide_true, Bool.and_self, Option.bind_some, if_true, e, q1]
theorem vm49 : VM [4, 9] := VMb_iff.1 (by decide)
theorem vm4 : VM [4] := VMb_iff.1 (by decide)
theorem vm235 : VM [2, 3, 5] := VMb_iff.1 (by decide)
theorem obs49 {k b : Int} (h : IsObs (pos k) [4, 9] 4 b) : b = 9 := by
  have hne : b ≠ 4 := obs_ne (vm49.ring k) h (m := 9) (by simp) (fun e => by have := (vm49.ring k).inj 9 (by simp) 4 (by simp) e; omega)
  have := h.1
  simp at this
  omega
theorem obs94 {k b : Int} (h : IsObs (pos k) [4, 9] 9 b) : b = 4 := by
  have hne : b ≠ 9 := obs_ne (vm49.ring k) h (m := 4) (by simp) (fun e => by have := (vm49.ring k).inj 4 (by simp) 9 (by simp) e; omega)
  have := h.1
  simp at this
  omega
theorem sub49 {k b : Int} (h : IsSub (pos k) [4, 9] 4 b) : b = 9 := by
  have hne : b ≠ 4 := sub_ne (vm49.ring k) h (m := 9) (by simp) (fun e => by have := (vm49.ring k).inj 9 (by simp) 4 (by simp) e; omega)
  have := h.1
  simp at this
  omega
theorem awake4 (N : Nat) (hN : 1 ≤ N) : law4_awake N = some true := by
  obtain ⟨r1, e1, f1⟩ := observers_eq N hN vm49 (id := 4) (by omega) (by decide)
  obtain ⟨r2, e2, f2⟩ := subjects_eq N hN vm49 (by decide) (a := 4) (by simp)
  obtain ⟨r3, e3, f3⟩ := observers_eq N hN vm4 (id := 7) (by omega) (by decide)
  obtain ⟨o, e5, hp, _⟩ := order_eq N hN vm235 (k := 1) (by omega) (by omega)
  obtain ⟨b, r6, fb, e6, hc⟩ := shared_eq N hN vm49 (x := 4) (m := 9) (by omega) (by omega) (by decide)
  have e4 : overlay_Observers N [4] 4 = some [] := by
    simp only [overlay_Observers, view_valid, VMb_iff.2 vm4, oident, Option.bind_some, if_true]
    rfl
  obtain ⟨x5, p5, g5⟩ := f1.gx (k := 0) (by omega) (by omega)
  obtain ⟨x6, p6, g6⟩ := f2.gx (k := 4) (by omega) (by omega)
  obtain ⟨x7, p7, g7⟩ := f3.gx (k := 2) (by omega) (by omega)
  obtain rfl := obs49 p5
  obtain rfl := sub49 p6
  obtain rfl := obs_alone p7
  have hb : b.count 4 = 5 := by
    obtain ⟨a, b', c, d, e, rfl, h0, h1, h2, h3, h4⟩ := fb.ex
    rw [obs94 h0, obs94 h1, obs94 h2, obs94 h3, obs94 h4]; rfl
  have hl : o.length = 3 := hp.length_eq
  have l1 := f1.len; have l2 := f2.len; have l3 := f3.len
  simp only [law4_awake, e1, e2, e3, e4, e5, e6, Option.bind_some, l1, l2, l3, g5, g6, g7, hl, hc, hb]
  simp
section
variable {l o : List Int} {k : Int} {i0 : Nat}
end
end Go.Proofs.Ytjpeiibeemmdfaa

set_option linter.unusedSimpArgs false
set_option linter.unusedVariables false
namespace Go.Proofs.Ytjpeiibeemmdfaa
open Go Go.Proofs Go.Abs
def cntL (T : List Int) : List Int → Nat
  | [] => 0
  | x :: xs => T.count x + cntL T xs
theorem cntL_nil : ∀ (l : List Int), cntL [] l = 0
  | [] => rfl
  | x :: xs => by rw [cntL, cntL_nil xs]; simp
theorem cntL_cons (t : Int) (T : List Int) : ∀ (l : List Int), cntL (t :: T) l = l.count t + cntL T l
  | [] => rfl
  | x :: xs => by
    rw [cntL, cntL, cntL_cons t T xs, List.count_cons, List.count_cons]
    by_cases e : t = x
    · subst e; simp; omega
    · have : ¬ x = t := fun q => e q.symm
      simp [e, this]; omega
theorem cntL_eq {l : List Int} (hnd : l.Nodup) : ∀ (T : List Int), (∀ t ∈ T, t ∈ l) → cntL T l = T.length
  | [], _ => cntL_nil l
  | t :: T, h => by
    rw [cntL_cons, cntL_eq hnd T (fun x hx => h x (by simp [hx])), hnd.count, if_pos (h t (by simp)), List.length_cons]; omega
theorem count_dual {l : List Int} (h : VM l) {x m : Int} (hx : x ∈ l) (hm : m ∈ l) {s b : List Int} (hs : Five (fun k z => IsSub (pos k) l x z) s) (hb : Five (fun k z => IsObs (pos k) l m z) b) : b.count x = s.count m := by
  obtain ⟨s0, s1, s2, s3, s4, rfl, p0, p1, p2, p3, p4⟩ := hs.ex
  obtain ⟨b0, b1, b2, b3, b4, rfl, q0, q1, q2, q3, q4⟩ := hb.ex
  have key : ∀ {k s b : Int}, IsSub (pos k) l x s → IsObs (pos k) l m b → ((b == x) = (s == m)) := by
    intro k s b hs hb
    rw [Bool.eq_iff_iff, beq_iff_eq, beq_iff_eq]
    constructor
    · rintro rfl; exact sub_uniq (h.ring k) hs (sub_of_obs (h.ring k) hm hb)
    · rintro rfl; exact obs_uniq (h.ring k) hb (obs_of_sub (h.ring k) hx hs)
  simp only [List.count_cons, List.count_nil, key p0 q0, key p1 q1, key p2 q2, key p3 q3, key p4 q4]
theorem degree_L2 (N : Nat) (hN : 1 ≤ N) {l : List Int} (h : VM l) (h2 : 2 ≤ l.length) {x : Int} (hx : x ∈ l) {s b : List Int} (hs : Five (fun k z => IsSub (pos k) l x z) s) (hb : Five (fun k z => IsObs (pos k) l x z) b) (eb : overlay_Observers N l x = some b) (kx : Int → Int → Option Bool) :
    ∀ (xs : List Int) (v : Nat) (p q : Nat), (∀ y ∈ xs, y ∈ l) → p + 5 * xs.length ≤ 1000 → q + 5 * xs.length ≤ 1000 → law4_OverlayDegree_L2 kx N l x xs v ((p : Int), (q : Int)) = kx ((p + cntL s xs : Nat) : Int) ((q + cntL b xs : Nat) : Int)
  | [], v, p, q, _, _, _ => rfl
  | y :: ys, v, p, q, hm, h3, h4 => by
    simp only [List.length_cons] at h3 h4
    have hy := hm y (by simp)
    have hne : ∀ z, ¬ l = [z] := fun z e => by rw [e] at h2; simp at h2
    obtain ⟨b1, r1, f1, e1, c1⟩ := shared_eq N hN h (h.rg x hx) (h.rg y hy) (hne y)
    obtain ⟨b2, r2, f2, e2, c2⟩ := shared_eq N hN h (h.rg y hy) (h.rg x hx) (hne x)
    have d1 := count_dual h hx hy hs f1
    have d2 : b2.count y = b.count y := by
      obtain ⟨a0, a1, a2, a3, a4, rfl, p0, p1, p2, p3, p4⟩ := f2.ex
      obtain ⟨b0, b1, b2, b3, b4, rfl, q0, q1, q2, q3, q4⟩ := hb.ex
      rw [obs_uniq (h.ring 0) p0 q0, obs_uniq (h.ring 1) p1 q1, obs_uniq (h.ring 2) p2 q2, obs_uniq (h.ring 3) p3 q3, obs_uniq (h.ring 4) p4 q4]
    have l1 : s.count y ≤ 5 := by have := List.count_le_length (a := y) (l := s); rw [hs.len] at this; exact this
    have l2 : b.count y ≤ 5 := by have := List.count_le_length (a := y) (l := b); rw [hb.len] at this; exact this
    rw [law4_OverlayDegree_L2, e1, Option.bind_some, e2, Option.bind_some, c1, c2, d1, d2, w64 (by omega) (by omega), w64 (by omega) (by omega)]
    rw [show ((p : Int) + ((s.count y : Nat) : Int)) = ((p + s.count y : Nat) : Int) by omega, show ((q : Int) + ((b.count y : Nat) : Int)) = ((q + b.count y : Nat) : Int) by omega]
    rw [degree_L2 N hN h h2 hx hs hb eb kx ys (v + 1) _ _ (fun z hz => hm z (by simp [hz])) (by omega) (by omega), cntL, cntL]
    congr 2 <;> omega
theorem degree_L1 (N : Nat) (hN : 1 ≤ N) {l : List Int} (h : VM l) (h2 : 2 ≤ l.length) : ∀ (xs : List Int) (v : Nat), (∀ y ∈ xs, y ∈ l) → law4_OverlayDegree_L1 N l xs v () = some true
  | [], v, _ => rfl
  | x :: xs, v, hm => by
    have hx := hm x (by simp)
    have hl2 := h.l2
    obtain ⟨s, es, fs⟩ := subjects_eq N hN h h2 hx
    obtain ⟨b, eb, fb⟩ := observers_eq N hN h (h.rg x hx) (fun e => by rw [e] at h2; simp at h2)
    have hs : cntL s l = 5 := by
      rw [cntL_eq h.nd s (fun t ht => ?_), fs.len]
      obtain ⟨a, b, c, d, e, rfl, p0, p1, p2, p3, p4⟩ := fs.ex
      simp only [List.mem_cons, List.not_mem_nil, or_false] at ht
      rcases ht with rfl | rfl | rfl | rfl | rfl
      · exact p0.1
      · exact p1.1
      · exact p2.1
      · exact p3.1
      · exact p4.1
    have hb : cntL b l = 5 := by
      rw [cntL_eq h.nd b (fun t ht => ?_), fb.len]
      obtain ⟨a, b, c, d, e, rfl, p0, p1, p2, p3, p4⟩ := fb.ex
      simp only [List.mem_cons, List.not_mem_nil, or_false] at ht
      rcases ht with rfl | rfl | rfl | rfl | rfl
      · exact p0.1
      · exact p1.1
      · exact p2.1
      · exact p3.1
      · exact p4.1
    have := degree_L2 N hN h h2 hx fs fb eb (law4_OverlayDegree_J3 (law4_OverlayDegree_L1 N l xs (v + 1))) l 0 0 0 (fun y hy => hy) (by omega) (by omega)
    rw [law4_OverlayDegree_L1, show ((0 : Int)) = ((0 : Nat) : Int) from rfl, this, hs, hb]
    have ih := degree_L1 N hN h h2 xs (v + 1) (fun y hy => hm y (by simp [hy]))
    simp [law4_OverlayDegree_J3, law4_OverlayDegree_J2, ih]
theorem plain_OverlayDegree (l : List Int) : law4_OverlayDegree 100 l = some true := by
  rw [law4_OverlayDegree, awake4 100 (by omega)]
  simp only [Option.bind_some, if_true, ref_valid]
  by_cases hv : VMb l = true
  rotate_left
  · simp [hv, law4_OverlayDegree_J1]
  have h := VMb_iff.1 hv
  rw [if_pos hv]
  by_cases hl : ((l.length : Nat) : Int) < 2
  · simp [hl, law4_OverlayDegree_J1]
  simp only [hl, decide_false, law4_OverlayDegree_J1, Bool.false_eq_true, if_false, law4_OverlayDegree_J4]
  exact degree_L1 100 (by omega) h (by omega) l 0 (fun y hy => hy)
end Go.Proofs.Ytjpeiibeemmdfaa
