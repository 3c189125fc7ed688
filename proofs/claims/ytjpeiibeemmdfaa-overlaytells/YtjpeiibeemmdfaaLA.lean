/- Plain facts on the models; no program in sight. -/
import Derived.Test.YtjpeiibeemmdfaaM
set_option linter.unusedSimpArgs false
set_option linter.unusedVariables false
namespace Go.Proofs.Ytjpeiibeemmdfaa
open Go Go.Proofs Go.Abs
theorem w64 {n : Int} (h1 : -9223372036854775808 ≤ n) (h2 : n ≤ 9223372036854775807) : IntKind.i64.wrap n = n := wrap64_in h1 h2
abbrev W64 := BitVec 64
def U (b : W64) : Int := (b.toNat : Int)
theorem U_lt (b : W64) : 0 ≤ U b ∧ U b < 18446744073709551616 := by
  have := b.isLt
  unfold U; omega
theorem U_inj {a b : W64} (h : U a = U b) : a = b := BitVec.eq_of_toNat_eq (by unfold U at h; omega)
theorem wrapU (n : Int) : IntKind.u64.wrap n = U (BitVec.ofInt 64 n) := by
  have e : IntKind.u64.wrap n = n % 18446744073709551616 := by
    simp [IntKind.wrap, IntKind.bits, IntKind.signed]
  rw [e]
  unfold U
  rw [BitVec.toNat_ofInt]
  have := Int.emod_nonneg n (show (18446744073709551616 : Int) ≠ 0 by decide)
  show n % 18446744073709551616 = ((n % (2 ^ 64 : Nat)).toNat : Int)
  have e2 : ((2 ^ 64 : Nat) : Int) = 18446744073709551616 := by decide
  rw [e2]; omega
theorem ofU (b : W64) : BitVec.ofInt 64 (U b) = b := by
  unfold U
  rw [BitVec.ofInt_natCast, BitVec.ofNat_toNat, BitVec.setWidth_eq]
theorem shrU (b : W64) (s : Nat) (hs : s ≤ 64) : shrI .u64 (U b) (s : Int) = U (b >>> s) := by
  unfold shrI U
  rw [BitVec.toNat_ushiftRight, Nat.shiftRight_eq_div_pow]
  have e : min ((s : Int)).toNat (IntKind.bits .u64) = s := by
    show min ((s : Int)).toNat 64 = s
    omega
  rw [e, Int.fdiv_eq_ediv_of_nonneg _ (by exact Int.le_of_lt (Int.pow_pos (by decide)))]
  norm_cast
def c1 : W64 := 13787848793156543929
def c2 : W64 := 10723151780598845931
def cg : W64 := 11400714819323198485
def xsr (s : Nat) (x : W64) : W64 := x ^^^ (x >>> s)
def mixB (x : W64) : W64 := xsr 31 (xsr 27 (xsr 30 x * c1) * c2)
def posB (ring id : Int) : W64 := mixB (BitVec.ofInt 64 ring + cg * (BitVec.ofInt 64 id + 1))
theorem xsr_inj {s : Nat} (hs : 0 < s) {x y : W64} (h : xsr s x = xsr s y) : x = y := by
  unfold xsr at h
  have hz : (x ^^^ y) = (x ^^^ y) >>> s := by
    rw [BitVec.ushiftRight_xor_distrib]
    have : (x ^^^ (x >>> s)) ^^^ (y ^^^ (x >>> s)) = (y ^^^ (y >>> s)) ^^^ (y ^^^ (x >>> s)) := by rw [h]
    have e1 : (x ^^^ (x >>> s)) ^^^ (y ^^^ (x >>> s)) = x ^^^ y := by
      rw [BitVec.xor_comm y, ← BitVec.xor_assoc, BitVec.xor_assoc x, BitVec.xor_self, BitVec.xor_zero]
    have e2 : (y ^^^ (y >>> s)) ^^^ (y ^^^ (x >>> s)) = x >>> s ^^^ y >>> s := by
      rw [BitVec.xor_comm y (y >>> s), ← BitVec.xor_assoc, BitVec.xor_assoc (y >>> s), BitVec.xor_self, BitVec.xor_zero, BitVec.xor_comm]
    rw [← e1, this, e2]
  have h0 : x ^^^ y = BitVec.ofNat 64 0 := by
    apply BitVec.eq_of_toNat_eq
    have h1 := congrArg BitVec.toNat hz
    rw [BitVec.toNat_ushiftRight, Nat.shiftRight_eq_div_pow] at h1
    generalize (x ^^^ y).toNat = n at h1
    show n = 0
    have h2 : 2 ≤ 2 ^ s := by
      have := Nat.pow_le_pow_right (show 0 < 2 by decide) hs
      simpa using this
    rcases Nat.eq_zero_or_pos n with hn | hn
    · exact hn
    · have := Nat.div_lt_self hn (show 1 < 2 ^ s by omega)
      omega
  have := congrArg (· ^^^ y) h0
  simpa [BitVec.xor_assoc] using this
theorem mul_inj {c d : W64} (hcd : c * d = 1) {x y : W64} (h : x * c = y * c) : x = y := by
  have := congrArg (· * d) h
  simpa [BitVec.mul_assoc, hcd] using this
theorem mixB_inj {x y : W64} (h : mixB x = mixB y) : x = y := by
  unfold mixB at h
  have h1 := xsr_inj (by decide) h
  have h2 := mul_inj (c := c2) (d := 3573116690164977347) (by decide) h1
  have h3 := xsr_inj (by decide) h2
  have h4 := mul_inj (c := c1) (d := 10871156337175269513) (by decide) h3
  exact xsr_inj (by decide) h4
theorem ofInt_inj {a b : Int} (ha : 0 ≤ a) (ha' : a < 18446744073709551616) (hb : 0 ≤ b) (hb' : b < 18446744073709551616) (h : BitVec.ofInt 64 a = BitVec.ofInt 64 b) : a = b := by
  have := congrArg BitVec.toNat h
  rw [BitVec.toNat_ofInt, BitVec.toNat_ofInt] at this
  have e2 : ((2 ^ 64 : Nat) : Int) = 18446744073709551616 := by decide
  rw [e2, Int.emod_eq_of_lt ha ha', Int.emod_eq_of_lt hb hb'] at this
  omega
theorem posB_inj {ring a b : Int} (ha : 0 ≤ a) (ha' : a ≤ 1000) (hb : 0 ≤ b) (hb' : b ≤ 1000) (h : posB ring a = posB ring b) : a = b := by
  have h1 := mixB_inj h
  have h2 : cg * (BitVec.ofInt 64 a + 1) = cg * (BitVec.ofInt 64 b + 1) := by
    rw [BitVec.add_comm (BitVec.ofInt 64 ring), BitVec.add_comm (BitVec.ofInt 64 ring)] at h1
    have := congrArg (fun z => z - BitVec.ofInt 64 ring) h1
    simpa only [BitVec.add_sub_cancel] using this
  rw [BitVec.mul_comm cg, BitVec.mul_comm cg] at h2
  have h3 := mul_inj (c := cg) (d := 17428512612931826493) (by decide) h2
  have h4 : BitVec.ofInt 64 a = BitVec.ofInt 64 b := by
    have := congrArg (fun z => z - BitVec.ofNat 64 1) h3
    simpa using this
  exact ofInt_inj ha (by omega) hb (by omega) h4
end Go.Proofs.Ytjpeiibeemmdfaa

set_option linter.unusedSimpArgs false
set_option linter.unusedVariables false
namespace Go.Proofs.Ytjpeiibeemmdfaa
open Go Go.Proofs Go.Abs
def fw (p : Int → Int) (a m : Int) : Int := (p m - p a - 1) % 18446744073709551616
structure Ring (p : Int → Int) (l : List Int) : Prop where
  rg : ∀ z, 0 ≤ p z ∧ p z < 18446744073709551616
  inj : ∀ x ∈ l, ∀ y ∈ l, p x = p y → x = y
def IsSub (p : Int → Int) (l : List Int) (a s : Int) : Prop := s ∈ l ∧ ∀ m ∈ l, fw p a s ≤ fw p a m
def IsObs (p : Int → Int) (l : List Int) (x a : Int) : Prop := a ∈ l ∧ ∀ m ∈ l, fw p a x ≤ fw p m x
variable {p : Int → Int} {l : List Int}
theorem obs_uniq (h : Ring p l) {x a a' : Int} (h1 : IsObs p l x a) (h2 : IsObs p l x a') : a = a' := by
  refine h.inj a h1.1 a' h2.1 ?_
  have a1 := h1.2 a' h2.1
  have a2 := h2.2 a h1.1
  have := h.rg a; have := h.rg x; have := h.rg a'
  unfold fw at *
  omega
theorem sub_ne (h : Ring p l) {a s m : Int} (h1 : IsSub p l a s) (hm : m ∈ l) (hne : p m ≠ p a) : s ≠ a := by
  rintro rfl
  have a1 := h1.2 m hm
  have := h.rg m; have := h.rg s
  unfold fw at *
  omega
theorem obs_ne (h : Ring p l) {x a m : Int} (h1 : IsObs p l x a) (hm : m ∈ l) (hne : p m ≠ p x) : a ≠ x := by
  rintro rfl
  have a1 := h1.2 m hm
  have := h.rg m; have := h.rg a
  unfold fw at *
  omega
theorem sub_of_order {o : List Int} (hs : o.Pairwise fun a b => p a < p b) (hrg : ∀ z, 0 ≤ p z ∧ p z < 18446744073709551616) {i : Nat} (hi : i < o.length) (h2 : 2 ≤ o.length) :
    IsSub p o o[i] (o[(i + 1) % o.length]'(Nat.mod_lt _ (by omega))) := by
  have hlt : ∀ a b, (ha : a < o.length) → (hb : b < o.length) → a < b → p o[a] < p o[b] := fun a b ha hb hab => List.pairwise_iff_getElem.1 hs a b ha hb hab
  refine ⟨List.getElem_mem _, fun m hm => ?_⟩
  obtain ⟨j, hj, rfl⟩ := List.getElem_of_mem hm
  have r1 := hrg o[i]; have r2 := hrg o[j]
  by_cases hn : i + 1 < o.length
  · have e : (i + 1) % o.length = i + 1 := Nat.mod_eq_of_lt hn
    simp only [e]
    have r3 := hrg (o[i + 1]'hn)
    have h3 := hlt i (i + 1) hi hn (by omega)
    rcases Nat.lt_trichotomy j (i + 1) with q | q | q
    · have h4 : p o[j] ≤ p o[i] := by
        rcases Nat.lt_or_ge j i with z | z
        · exact Int.le_of_lt (hlt j i hj hi z)
        · have : j = i := by omega
          subst this; exact Int.le_refl _
      unfold fw; omega
    · subst q; exact Int.le_refl _
    · have h4 := hlt (i + 1) j hn hj q
      unfold fw; omega
  · have e : (i + 1) % o.length = 0 := by
      have : i + 1 = o.length := by omega
      rw [this]; exact Nat.mod_self _
    simp only [e]
    have h0 : 0 < o.length := by omega
    have r3 := hrg (o[0]'h0)
    have h3 := hlt 0 i h0 hi (by omega)
    have h4 : p (o[0]'h0) ≤ p o[j] := by
      rcases Nat.eq_zero_or_pos j with z | z
      · subst z; exact Int.le_refl _
      · exact Int.le_of_lt (hlt 0 j h0 hj z)
    have h5 : p o[j] ≤ p o[i] := by
      rcases Nat.lt_or_ge j i with z | z
      · exact Int.le_of_lt (hlt j i hj hi z)
      · have : j = i := by omega
        subst this; exact Int.le_refl _
    unfold fw; omega
end Go.Proofs.Ytjpeiibeemmdfaa

set_option linter.unusedSimpArgs false
set_option linter.unusedVariables false
namespace Go.Proofs.Ytjpeiibeemmdfaa
open Go Go.Proofs Go.Abs
theorem x30 (b : W64) : IntKind.u64.wrap ((BitVec.ofInt (IntKind.bits .u64) (U b) ^^^ BitVec.ofInt (IntKind.bits .u64) (shrI .u64 (U b) 30)).toNat) = U (xsr 30 b) := by
  show IntKind.u64.wrap (((BitVec.ofInt 64 (U b) ^^^ BitVec.ofInt 64 (shrI .u64 (U b) ((30 : Nat) : Int))).toNat : Nat) : Int) = _
  rw [shrU b 30 (by decide), ofU, ofU, wrapU]
  exact congrArg U (ofU _)
theorem x27 (b : W64) : IntKind.u64.wrap ((BitVec.ofInt (IntKind.bits .u64) (U b) ^^^ BitVec.ofInt (IntKind.bits .u64) (shrI .u64 (U b) 27)).toNat) = U (xsr 27 b) := by
  show IntKind.u64.wrap (((BitVec.ofInt 64 (U b) ^^^ BitVec.ofInt 64 (shrI .u64 (U b) ((27 : Nat) : Int))).toNat : Nat) : Int) = _
  rw [shrU b 27 (by decide), ofU, ofU, wrapU]
  exact congrArg U (ofU _)
theorem x31 (b : W64) : IntKind.u64.wrap ((BitVec.ofInt (IntKind.bits .u64) (U b) ^^^ BitVec.ofInt (IntKind.bits .u64) (shrI .u64 (U b) 31)).toNat) = U (xsr 31 b) := by
  show IntKind.u64.wrap (((BitVec.ofInt 64 (U b) ^^^ BitVec.ofInt 64 (shrI .u64 (U b) ((31 : Nat) : Int))).toNat : Nat) : Int) = _
  rw [shrU b 31 (by decide), ofU, ofU, wrapU]
  exact congrArg U (ofU _)
theorem m1 (b : W64) : IntKind.u64.wrap (U b * 13787848793156543929) = U (b * c1) := by
  rw [wrapU, BitVec.ofInt_mul, ofU]; rfl
theorem m2 (b : W64) : IntKind.u64.wrap (U b * 10723151780598845931) = U (b * c2) := by
  rw [wrapU, BitVec.ofInt_mul, ofU]; rfl
theorem mix_eq (N : Nat) (hN : 1 ≤ N) (b : W64) : hashing_Mix N (U b) = some (U (mixB b)) := by
  obtain ⟨n, rfl⟩ : ∃ n, N = n + 1 := ⟨N - 1, by omega⟩
  simp only [hashing_Mix, brN, hashing_shifts, hashing_factors, Option.bind_some]
  rw [x30, m1, x27, m2, x31]
  rfl
theorem pos_eq (N : Nat) (hN : 1 ≤ N) (k id : Int) : hashing_Position N k id = some (U (posB k id)) := by
  have e : IntKind.u64.wrap (IntKind.u64.wrap k + (IntKind.u64.wrap (11400714819323198485 * (IntKind.u64.wrap (IntKind.u64.wrap id + 1))))) = U (BitVec.ofInt 64 k + cg * (BitVec.ofInt 64 id + 1)) := by
    rw [wrapU k, wrapU id, wrapU (U _ + 1), wrapU (11400714819323198485 * U _), wrapU (U _ + U _), BitVec.ofInt_add, BitVec.ofInt_add, BitVec.ofInt_mul, ofU, ofU, ofU, ofU]; rfl
  simp only [hashing_Position, hashing_Combine, e, mix_eq N hN, Option.bind_some]
  rfl
def pos (k id : Int) : Int := U (posB k id)
theorem pos_rg (k id : Int) : 0 ≤ pos k id ∧ pos k id < 18446744073709551616 := U_lt _
theorem pos_inj {k a b : Int} (ha : 1 ≤ a ∧ a ≤ 1000) (hb : 1 ≤ b ∧ b ≤ 1000) (h : pos k a = pos k b) : a = b := posB_inj (by omega) ha.2 (by omega) hb.2 (U_inj h)
theorem u64_mod (n : Int) : IntKind.u64.wrap n = n % 18446744073709551616 := by simp [IntKind.wrap, IntKind.bits, IntKind.signed]
def risB : Int → List Int → Bool
  | _, [] => true
  | p, x :: xs => decide (p < x) && decide (x ≤ 1000) && risB x xs
theorem risB_iff : ∀ (l : List Int) (p : Int), risB p l = true ↔ (∀ x ∈ l, p < x ∧ x ≤ 1000) ∧ l.Pairwise (· < ·)
  | [], p => by simp [risB]
  | x :: xs, p => by
    simp only [risB, Bool.and_eq_true, decide_eq_true_eq, risB_iff xs x, List.mem_cons, forall_eq_or_imp, List.pairwise_cons]
    constructor
    · rintro ⟨⟨a, b⟩, c, d⟩
      exact ⟨⟨⟨a, b⟩, fun y hy => ⟨by have := (c y hy).1; omega, (c y hy).2⟩⟩, fun y hy => (c y hy).1, d⟩
    · rintro ⟨⟨⟨a, b⟩, c⟩, d, e⟩
      exact ⟨⟨a, b⟩, fun y hy => ⟨d y hy, (c y hy).2⟩, e⟩
structure VM (l : List Int) : Prop where
  l1 : 1 ≤ l.length
  l2 : l.length ≤ 16
  rg : ∀ x ∈ l, 1 ≤ x ∧ x ≤ 1000
  so : l.Pairwise (· < ·)
theorem VM_of {l : List Int} (h1 : 1 ≤ l.length) (h2 : l.length ≤ 16) (h : risB 0 l = true) : VM l := by
  obtain ⟨a, b⟩ := (risB_iff l 0).1 h
  exact ⟨h1, h2, fun x hx => by have := a x hx; omega, b⟩
theorem VM.ris {l : List Int} (h : VM l) : risB 0 l = true := (risB_iff l 0).2 ⟨fun x hx => by have := h.rg x hx; omega, h.so⟩
theorem VM.nd {l : List Int} (h : VM l) : l.Nodup := h.so.imp (fun h => by omega)
theorem VM.ring {l : List Int} (h : VM l) (k : Int) : Ring (pos k) l := ⟨pos_rg k, fun x hx y hy e => pos_inj (h.rg x hx) (h.rg y hy) e⟩
theorem isid_eq (N : Nat) (x : Int) : ref3_IsID N x = some (decide (1 ≤ x) && decide (x ≤ 1000)) := by
  unfold ref3_IsID
  by_cases h : 1 ≤ x <;> simp [h]
theorem rising_L1 (N : Nat) (l : List Int) (hl : l.length ≤ 16) : ∀ (xs : List Int) (v : Nat) (p : Int), l.drop v = xs → 0 ≤ p → (v = 0 → p = 0) → (0 < v → l[v - 1]? = some p) → ref3_Rising_L1 N l xs v () = some (risB p xs)
  | [], v, p, _, _, _, _ => rfl
  | x :: xs, v, p, hd, h0, hz, hv => by
    have hvl : v < l.length := by
      rcases Nat.lt_or_ge v l.length with h | h
      · exact h
      · rw [List.drop_eq_nil_of_le h] at hd; simp at hd
    rw [List.drop_eq_getElem_cons hvl] at hd
    simp only [List.cons.injEq] at hd
    have hx : l[v]? = some x := by rw [List.getElem?_eq_getElem hvl, hd.1]
    have ih : 0 ≤ x → ref3_Rising_L1 N l xs (v + 1) () = some (risB x xs) := fun hx0 => rising_L1 N l hl xs (v + 1) x hd.2 hx0 (by omega) (fun _ => by simpa using hx)
    rw [ref3_Rising_L1, isid_eq, Option.bind_some, risB]
    by_cases h1 : 1 ≤ x
    · have ih := ih (by omega)
      by_cases h2 : x ≤ 1000
      · simp only [h1, h2, decide_true, Bool.and_self, if_true, Bool.and_true]
        by_cases h3 : 0 < v
        · rw [if_pos (by omega), w64 (by omega) (by omega), show ((v : Int) - 1) = ((v - 1 : Nat) : Int) by omega, gx_nat (hv h3)]
          by_cases h4 : x ≤ p
          · have : ¬ p < x := by omega
            simp [h4, this, ref3_Rising_J1]
          · have : p < x := by omega
            simp [h4, this, ref3_Rising_J1, ih]
        · rw [if_neg (by omega)]
          have : p = 0 := hz (by omega)
          have : p < x := by omega
          simp [this, ref3_Rising_J1, ih]
      · simp [h1, h2, ref3_Rising_J1]
    · have : ¬ (p < x) := by omega
      simp [h1, this, ref3_Rising_J1]
def VMb (l : List Int) : Bool := decide (1 ≤ l.length) && decide (l.length ≤ 16) && risB 0 l
theorem VMb_iff {l : List Int} : VMb l = true ↔ VM l := by
  unfold VMb
  simp only [Bool.and_eq_true, decide_eq_true_eq]
  exact ⟨fun h => VM_of h.1.1 h.1.2 h.2, fun h => ⟨⟨h.l1, h.l2⟩, h.ris⟩⟩
theorem ref_valid (N : Nat) (l : List Int) : ref3_ValidMembers N l = some (VMb l) := by
  unfold ref3_ValidMembers VMb
  by_cases h1 : 1 ≤ l.length
  · rw [if_pos (by omega)]
    by_cases h2 : l.length ≤ 16
    · rw [if_pos (by omega), ref3_Rising, rising_L1 N l h2 l 0 0 rfl (by omega) (by simp) (by simp)]
      simp [h1, h2]
    · rw [if_neg (by omega)]; simp [h2]
  · rw [if_neg (by omega)]; simp [h1]
theorem ident_L1 : ∀ (xs : List Int) (v : Nat) (p : Int), view_identifiers_L1 xs v p = some (risB p xs)
  | [], v, p => rfl
  | x :: xs, v, p => by
    rw [view_identifiers_L1, risB]
    by_cases h1 : x ≤ p
    · have : ¬ p < x := by omega
      simp [h1, this, view_identifiers_J2]
    · have : p < x := by omega
      by_cases h2 : 1000 < x
      · have h2' : ¬ x ≤ 1000 := by omega
        simp [h1, this, h2, h2', view_identifiers_J2]
      · have h2' : x ≤ 1000 := by omega
        simp [h1, this, h2, h2', view_identifiers_J2, view_identifiers_J3, ident_L1 xs]
theorem view_valid (N : Nat) (l : List Int) : view_ValidMembers N l = some (VMb l) := by
  simp only [view_ValidMembers, view_identifiers]
  unfold VMb
  by_cases h1 : 1 ≤ l.length
  · rw [if_neg (by omega)]
    by_cases h2 : l.length ≤ 16
    · have : ¬ (16 : Int) < (l.length : Int) := by omega
      simp [this, view_identifiers_J1, view_identifiers_J4, ident_L1, h1, h2]
    · have : (16 : Int) < (l.length : Int) := by omega
      simp [this, view_identifiers_J1, h2]
  · rw [if_pos (by omega)]
    simp [view_identifiers_J1, h1]
theorem oident (N : Nat) (x : Int) : overlay_identifier N x = some (decide (1 ≤ x) && decide (x ≤ 1000)) := by
  unfold overlay_identifier
  by_cases h : 1 ≤ x <;> simp [h]
theorem place_eq (N : Nat) {a : Int} {o : List Int} (ha : a ∈ o) : ∃ i, o[i]? = some a ∧ view_Place N o a = some ((i : Nat) : Int) := by
  have : ∀ (xs : List Int) (v : Nat), a ∈ xs → ∃ i, xs[i]? = some a ∧ view_Place_L1 a xs v () = some ((v + i : Nat) : Int) := by
    intro xs
    induction xs with
    | nil => intro v h; simp at h
    | cons y ys ih =>
      intro v h
      by_cases e : y = a
      · exact ⟨0, by simp [e], by rw [view_Place_L1, if_pos e]; rfl⟩
      · obtain ⟨i, h1, h2⟩ := ih (v + 1) (by
          rcases List.mem_cons.1 h with q | q
          · exact absurd q.symm e
          · exact q)
        exact ⟨i + 1, by simpa using h1, by rw [view_Place_L1, if_neg e, h2]; congr 2; omega⟩
  obtain ⟨i, h1, h2⟩ := this o 0 ha
  exact ⟨i, h1, by rw [view_Place, h2, Nat.zero_add]⟩
theorem place_no (N : Nat) {a : Int} {o : List Int} (ha : a ∉ o) : view_Place N o a = some (-1) := by
  have : ∀ (xs : List Int) (v : Nat), a ∉ xs → view_Place_L1 a xs v () = some (-1) := by
    intro xs
    induction xs with
    | nil => intro v h; rfl
    | cons y ys ih =>
      intro v h
      rw [view_Place_L1, if_neg (fun e => h (by simp [e])), ih (v + 1) (fun q => h (by simp [q]))]
  exact this o 0 ha
theorem contains_eq (N : Nat) (a : Int) (o : List Int) : view_Contains N o a = some (decide (a ∈ o)) := by
  unfold view_Contains
  by_cases h : a ∈ o
  · obtain ⟨i, _, h2⟩ := place_eq N h
    rw [h2]; simp [h]
  · rw [place_no N h]; simp [h]
theorem cmpU_eq (N : Nat) (a b : Int) : cmp_Compare_uint64 N a b = some (if a < b then -1 else if b < a then 1 else 0) := by
  simp only [cmp_Compare_uint64, cmp_isNaN_uint64, Option.bind_some]
  by_cases h1 : a < b
  · simp [h1]
  · by_cases h2 : b < a <;> simp [h1, h2]
theorem order1_eq (N : Nat) (hN : 1 ≤ N) (k x y : Int) : overlay_Order_1 N x y k = some (if pos k x < pos k y then -1 else if pos k y < pos k x then 1 else 0) := by
  simp only [overlay_Order_1, pos_eq N hN, Option.bind_some, cmpU_eq]
  rfl
theorem neg_iff {a b : Int} : (if a < b then (-1 : Int) else if b < a then 1 else 0) < 0 ↔ a < b := by
  split
  · simp [*]
  · split <;> simp [*]
theorem sort_by {p : Int → Int} {c : Int → Int → Option Int} (hc : ∀ x y, c x y = some (if p x < p y then -1 else if p y < p x then 1 else 0)) {l : List Int} (hnd : l.Nodup) (hinj : ∀ x ∈ l, ∀ y ∈ l, p x = p y → x = y) (hl : l.length ≤ 16) :
    ∃ o, sortM c l = some o ∧ o.Perm l ∧ o.Pairwise fun a b => p a < p b := by
  have hlt : ∀ x y, Go.Proofs.ltOf (fun x y => (c x y).getD 0) x y = decide (p x < p y) := by
    intro x y
    simp only [Go.Proofs.ltOf, hc, Option.getD_some, neg_iff]
  obtain ⟨o, ho⟩ := sortM_ok (c := c) (l := l) (fun x y => ⟨_, hc x y⟩) ⟨fun x => by rw [hlt]; simp, fun x y z h1 h2 => by rw [hlt] at *; simp at *; omega, fun x y z h1 h2 => by rw [hlt] at *; simp at *; omega⟩ (by omega)
  obtain ⟨hp, hs⟩ := sortM_sorts ho
  refine ⟨o, ho, hp, ?_⟩
  have hnd' : o.Nodup := hp.symm.nodup hnd
  refine (hs.and hnd').imp_of_mem ?_
  intro a b ha hb hab
  obtain ⟨q1, q2⟩ := hab
  rw [hc, Option.getD_some, neg_iff] at q1
  have : p a ≠ p b := fun e => q2 (hinj a (hp.mem_iff.1 ha) b (hp.mem_iff.1 hb) e)
  omega
theorem order_eq (N : Nat) (hN : 1 ≤ N) {l : List Int} (h : VM l) {k : Int} (k0 : 0 ≤ k) (k1 : k < 5) : ∃ o, overlay_Order N l k = some o ∧ o.Perm l ∧ o.Pairwise fun a b => pos k a < pos k b := by
  have hl := h.l2
  have hl1 := h.l1
  have hne : l.isEmpty = false := by
    cases l with
    | nil => simp at hl1
    | cons x xs => rfl
  obtain ⟨o, ho, hp, hs⟩ := sort_by (order1_eq N hN k) h.nd (h.ring k).inj h.l2
  refine ⟨o, ?_, hp, hs⟩
  simp only [overlay_Order, view_valid, VMb_iff.2 h, Option.bind_some, if_true]
  rw [if_neg (by omega)]
  have : ¬ 5 ≤ k := by omega
  simp only [this, decide_false, overlay_Order_J1, Bool.false_eq_true, if_false, overlay_Order_J2, slices_Clone_int]
  rw [apn_ok (by omega)]
  simp only [Option.bind_some, slices_SortFunc_int_overlay_Order_1, hne, Bool.false_eq_true, if_false, ho]
theorem IsSub.perm {p : Int → Int} {l o : List Int} (hp : o.Perm l) {a s : Int} (h : IsSub p o a s) : IsSub p l a s := ⟨hp.mem_iff.1 h.1, fun m hm => h.2 m (hp.mem_iff.2 hm)⟩
theorem subj_step (N : Nat) (hN : 1 ≤ N) {l : List Int} (h : VM l) (h2 : 2 ≤ l.length) {a : Int} (ha : a ∈ l) {k : Int} (k0 : 0 ≤ k) (k1 : k < 5) :
    ∃ s, IsSub (pos k) l a s ∧ ∀ {β : Type} (K : Int → Option β), ((overlay_Order N l k).bind fun r => (view_Place N r a).bind fun q => dvx ((r.length : Nat) : Int) <| gx r (Int.tmod (IntKind.i64.wrap (q + 1)) ((r.length : Nat) : Int)) K) = K s := by
  obtain ⟨o, ho, hp, hs⟩ := order_eq N hN h k0 k1
  have hlen := hp.length_eq
  have hl := h.l2
  obtain ⟨i, hi, hpl⟩ := place_eq N (hp.mem_iff.2 ha)
  have hil := (List.getElem?_eq_some_iff.1 hi).1
  have hia : o[i] = a := (List.getElem?_eq_some_iff.1 hi).2
  have hmod := Nat.mod_lt (i + 1) (show o.length > 0 by omega)
  have hsub := sub_of_order hs (pos_rg k) hil (by omega)
  rw [hia] at hsub
  refine ⟨_, hsub.perm hp, fun K => ?_⟩
  rw [ho, Option.bind_some, hpl, Option.bind_some]
  unfold dvx
  rw [if_neg (by omega), w64 (by omega) (by omega)]
  have e : Int.tmod ((i : Int) + 1) ((o.length : Nat) : Int) = (((i + 1) % o.length : Nat) : Int) := by
    rw [Int.tmod_eq_emod_of_nonneg (by omega)]
    push_cast; rfl
  rw [e, gx_nat (List.getElem?_eq_getElem hmod)]
structure Five (P : Int → Int → Prop) (r : List Int) : Prop where
  ex : ∃ a b c d e, r = [a, b, c, d, e] ∧ P 0 a ∧ P 1 b ∧ P 2 c ∧ P 3 d ∧ P 4 e
theorem Five.len {P : Int → Int → Prop} {r : List Int} (h : Five P r) : r.length = 5 := by obtain ⟨a, b, c, d, e, rfl, _⟩ := h.ex; rfl
theorem Five.get {P : Int → Int → Prop} {r : List Int} (h : Five P r) {k : Int} (k0 : 0 ≤ k) (k1 : k < 5) : ∃ x, r[k.toNat]? = some x ∧ P k x := by
  obtain ⟨a, b, c, d, e, rfl, h0, h1, h2, h3, h4⟩ := h.ex
  rcases (show k = 0 ∨ k = 1 ∨ k = 2 ∨ k = 3 ∨ k = 4 by omega) with rfl | rfl | rfl | rfl | rfl
  · exact ⟨a, rfl, h0⟩
  · exact ⟨b, rfl, h1⟩
  · exact ⟨c, rfl, h2⟩
  · exact ⟨d, rfl, h3⟩
  · exact ⟨e, rfl, h4⟩
theorem Five.gx {P : Int → Int → Prop} {r : List Int} (h : Five P r) {k : Int} (k0 : 0 ≤ k) (k1 : k < 5) : ∃ x, P k x ∧ ∀ {β : Type} (K : Int → Option β), Abs.gx r k K = K x := by
  obtain ⟨x, hx, hp⟩ := h.get k0 k1
  refine ⟨x, hp, fun K => ?_⟩
  have := gx_nat (k := K) hx
  rwa [show ((k.toNat : Nat) : Int) = k by omega] at this
theorem subjects_eq (N : Nat) (hN : 1 ≤ N) {l : List Int} (h : VM l) (h2 : 2 ≤ l.length) {a : Int} (ha : a ∈ l) : ∃ r, overlay_Subjects N l a = some r ∧ Five (fun k s => IsSub (pos k) l a s) r := by
  obtain ⟨s0, p0, q0⟩ := subj_step N hN h h2 ha (k := 0) (by omega) (by omega)
  obtain ⟨s1, p1, q1⟩ := subj_step N hN h h2 ha (k := 1) (by omega) (by omega)
  obtain ⟨s2, p2, q2⟩ := subj_step N hN h h2 ha (k := 2) (by omega) (by omega)
  obtain ⟨s3, p3, q3⟩ := subj_step N hN h h2 ha (k := 3) (by omega) (by omega)
  obtain ⟨s4, p4, q4⟩ := subj_step N hN h h2 ha (k := 4) (by omega) (by omega)
  refine ⟨[s0, s1, s2, s3, s4], ?_, ⟨s0, s1, s2, s3, s4, rfl, p0, p1, p2, p3, p4⟩⟩
  have : ¬ ((l.length : Nat) : Int) = 1 := by omega
  simp only [overlay_Subjects, view_valid, VMb_iff.2 h, contains_eq, ha, decide_true, Option.bind_some, if_true, this, decide_false, overlay_Subjects_J1, Bool.false_eq_true, if_false, overlay_Subjects_J2]
  rw [q0, apn_ok (by simp), q1, apx_ok (by simp), q2, apx_ok (by simp), q3, apx_ok (by simp), q4, apx_ok (by simp)]
  rfl
theorem obs1_eq (N : Nat) (hN : 1 ≤ N) (own k x y : Int) : ∃ c, overlay_Observers_1 N x y own k = some c ∧ (c < 0 ↔ (own - pos k x - 1) % 18446744073709551616 < (own - pos k y - 1) % 18446744073709551616) := by
  simp only [overlay_Observers_1, pos_eq N hN, Option.bind_some, cmpU_eq, u64_mod]
  refine ⟨_, rfl, ?_⟩
  rw [neg_iff]
  show ((own - pos k x) % 18446744073709551616 - 1) % 18446744073709551616 < ((own - pos k y) % 18446744073709551616 - 1) % 18446744073709551616 ↔ _
  rw [Int.emod_sub_emod, Int.emod_sub_emod]
theorem min_L1 (N : Nat) (hN : 1 ≤ N) (l : List Int) (own k : Int) : ∀ (m v : Nat) (b : Int), v + m = l.length → b ∈ l → (∀ x ∈ l.take v, (own - pos k b - 1) % 18446744073709551616 ≤ (own - pos k x - 1) % 18446744073709551616) →
    ∃ r, slices_MinFunc_int_overlay_Observers_1_L1 l N own k m v b = some r ∧ r ∈ l ∧ ∀ x ∈ l, (own - pos k r - 1) % 18446744073709551616 ≤ (own - pos k x - 1) % 18446744073709551616
  | 0, v, b, hv, hb, hm => ⟨b, rfl, hb, fun x hx => hm x (by rw [List.take_of_length_le (by omega)]; exact hx)⟩
  | m + 1, v, b, hv, hb, hm => by
    have hvl : v < l.length := by omega
    have hx : l[v]? = some l[v] := List.getElem?_eq_getElem hvl
    obtain ⟨c, hc, hn⟩ := obs1_eq N hN own k l[v] b
    rw [slices_MinFunc_int_overlay_Observers_1_L1, gx_nat hx, hc, Option.bind_some]
    have ht : ∀ x, x ∈ l.take (v + 1) ↔ x ∈ l.take v ∨ x = l[v] := by
      intro x
      rw [List.take_add_one, hx, List.mem_append, Option.toList_some, List.mem_singleton]
    by_cases h : c < 0
    · rw [if_pos h]
      have h' := hn.1 h
      refine min_L1 N hN l own k m (v + 1) l[v] (by omega) (List.getElem_mem hvl) (fun x hx => ?_)
      rcases (ht x).1 hx with q | rfl
      · have := hm x q; omega
      · exact Int.le_refl _
    · rw [if_neg h]
      have h' : ¬ _ := fun q => h (hn.2 q)
      refine min_L1 N hN l own k m (v + 1) b (by omega) hb (fun x hx => ?_)
      rcases (ht x).1 hx with q | rfl
      · exact hm x q
      · omega
theorem min_eq (N : Nat) (hN : 1 ≤ N) {l : List Int} (h1 : 1 ≤ l.length) (k id : Int) : ∃ r, slices_MinFunc_int_overlay_Observers_1 N l (pos k id) k = some r ∧ IsObs (pos k) l id r := by
  have h0 : l[0]? = some l[0] := List.getElem?_eq_getElem (by omega)
  obtain ⟨r, e, hr, hm⟩ := min_L1 N hN l (pos k id) k (l.length - 1) 1 l[0] (by omega) (List.getElem_mem _) (fun x hx => by
    rw [List.take_add_one, h0] at hx
    simp only [List.take_zero, Option.toList_some, List.nil_append, List.mem_singleton] at hx
    subst hx; exact Int.le_refl _)
  refine ⟨r, ?_, hr, hm⟩
  unfold slices_MinFunc_int_overlay_Observers_1
  rw [if_neg (by omega), show ((0 : Int)) = ((0 : Nat) : Int) from rfl, gx_nat h0]
  exact e
theorem observers_eq (N : Nat) (hN : 1 ≤ N) {l : List Int} (h : VM l) {id : Int} (hid : 1 ≤ id ∧ id ≤ 1000) (hne : ¬ l = [id]) : ∃ r, overlay_Observers N l id = some r ∧ Five (fun k b => IsObs (pos k) l id b) r := by
  obtain ⟨s0, q0, p0⟩ := min_eq N hN h.l1 0 id
  obtain ⟨s1, q1, p1⟩ := min_eq N hN h.l1 1 id
  obtain ⟨s2, q2, p2⟩ := min_eq N hN h.l1 2 id
  obtain ⟨s3, q3, p3⟩ := min_eq N hN h.l1 3 id
  obtain ⟨s4, q4, p4⟩ := min_eq N hN h.l1 4 id
  refine ⟨[s0, s1, s2, s3, s4], ?_, ⟨s0, s1, s2, s3, s4, rfl, p0, p1, p2, p3, p4⟩⟩
  have hJ : overlay_Observers_J2 N id l = some [s0, s1, s2, s3, s4] := by
    have e : ∀ k, U (posB k id) = pos k id := fun _ => rfl
    simp only [overlay_Observers_J2, pos_eq N hN, Option.bind_some, e]
    rw [q0, Option.bind_some, apn_ok (by simp), q1, Option.bind_some, apx_ok (by simp), q2, Option.bind_some, apx_ok (by simp), q3, Option.bind_some, apx_ok (by simp), q4, Option.bind_some, apx_ok (by simp)]
    rfl
  have h0 := h.l1
  simp only [overlay_Observers, view_valid, VMb_iff.2 h, oident, hid.1, hid.2, decide_true, Bool.and_self, Option.bind_some, if_true]
  by_cases h1 : l.length = 1
  · rw [if_pos (by omega)]
    match l, h1, hne with
    | [x], _, hne =>
    have hx : ¬ x = id := fun q => hne (by rw [q])
    rw [show ((0 : Int)) = ((0 : Nat) : Int) from rfl, gx_nat (show ([x] : List Int)[0]? = some x from rfl)]
    simp [hx, overlay_Observers_J1, hJ]
  · rw [if_neg (by omega)]
    simp [overlay_Observers_J1, hJ]
end Go.Proofs.Ytjpeiibeemmdfaa

set_option linter.unusedSimpArgs false
set_option linter.unusedVariables false
namespace Go.Proofs.Ytjpeiibeemmdfaa
open Go Go.Proofs Go.Abs
theorem obs_alone {P : Int → Int} {a b x : Int} (h : IsObs P [a] x b) : b = a := by simpa using h.1
theorem shared_L1 (x : Int) : ∀ (xs : List Int) (v : Nat) (acc : List Int), v + xs.length ≤ 1000 → acc.length + xs.length ≤ 1000 → ∃ r, overlay_Shared_L1 x xs v acc = some r ∧ r.length = acc.length + xs.count x
  | [], v, acc, _, _ => ⟨acc, rfl, by simp⟩
  | y :: ys, v, acc, h1, h2 => by
    simp only [List.length_cons] at h1 h2
    rw [overlay_Shared_L1]
    by_cases e : y = x
    · rw [if_pos e, apx_ok (by simp only [List.length_cons, List.length_nil]; omega)]
      obtain ⟨r, q1, q2⟩ := shared_L1 x ys (v + 1) (acc ++ [((v : Nat) : Int)]) (by omega) (by simp; omega)
      exact ⟨r, q1, by rw [q2, e]; simp; omega⟩
    · rw [if_neg e]
      obtain ⟨r, q1, q2⟩ := shared_L1 x ys (v + 1) acc (by omega) (by omega)
      refine ⟨r, q1, by rw [q2, List.count_cons]; simp [e]⟩
theorem shared_eq (N : Nat) (hN : 1 ≤ N) {l : List Int} (h : VM l) {x m : Int} (hx : 1 ≤ x ∧ x ≤ 1000) (hm : 1 ≤ m ∧ m ≤ 1000) (hne : ¬ l = [m]) :
    ∃ b r, Five (fun k b => IsObs (pos k) l m b) b ∧ overlay_Shared N l x m = some r ∧ r.length = b.count x := by
  obtain ⟨b, e, hb⟩ := observers_eq N hN h hm hne
  obtain ⟨r, q1, q2⟩ := shared_L1 x b 0 [] (by rw [hb.len]; omega) (by rw [hb.len]; simp)
  refine ⟨b, r, hb, ?_, by simpa using q2⟩
  simp only [overlay_Shared, oident, hx.1, hx.2, decide_true, Bool.and_self, Option.bind_some, if_true, e, q1]
theorem vm49 : VM [4, 9] := VMb_iff.1 (by decide)
theorem vm4 : VM [4] := VMb_iff.1 (by decide)
theorem vm235 : VM [2, 3, 5] := VMb_iff.1 (by decide)
theorem obs49 {k b : Int} (h : IsObs (pos k) [4, 9] 4 b) : b = 9 := by
  have hne : b ≠ 4 := obs_ne (vm49.ring k) h (m := 9) (by simp) (fun e => by have := (vm49.ring k).inj 9 (by simp) 4 (by simp) e; omega)
  have := h.1
  simp at this
  omega
theorem obs94 {k b : Int} (h : IsObs (pos k) [4, 9] 9 b) : b = 4 := by
  have hne : b ≠ 9 := obs_ne (vm49.ring k) h (m := 4) (by simp) (fun e => by have := (vm49.ring k).inj 4 (by simp) 9 (by simp) e; omega)
  have := h.1
  simp at this
  omega
theorem sub49 {k b : Int} (h : IsSub (pos k) [4, 9] 4 b) : b = 9 := by
  have hne : b ≠ 4 := sub_ne (vm49.ring k) h (m := 9) (by simp) (fun e => by have := (vm49.ring k).inj 9 (by simp) 4 (by simp) e; omega)
  have := h.1
  simp at this
  omega
theorem awake4 (N : Nat) (hN : 1 ≤ N) : law4_awake N = some true := by
  obtain ⟨r1, e1, f1⟩ := observers_eq N hN vm49 (id := 4) (by omega) (by decide)
  obtain ⟨r2, e2, f2⟩ := subjects_eq N hN vm49 (by decide) (a := 4) (by simp)
  obtain ⟨r3, e3, f3⟩ := observers_eq N hN vm4 (id := 7) (by omega) (by decide)
  obtain ⟨o, e5, hp, _⟩ := order_eq N hN vm235 (k := 1) (by omega) (by omega)
  obtain ⟨b, r6, fb, e6, hc⟩ := shared_eq N hN vm49 (x := 4) (m := 9) (by omega) (by omega) (by decide)
  have e4 : overlay_Observers N [4] 4 = some [] := by
    simp only [overlay_Observers, view_valid, VMb_iff.2 vm4, oident, Option.bind_some, if_true]
    rfl
  obtain ⟨x5, p5, g5⟩ := f1.gx (k := 0) (by omega) (by omega)
  obtain ⟨x6, p6, g6⟩ := f2.gx (k := 4) (by omega) (by omega)
  obtain ⟨x7, p7, g7⟩ := f3.gx (k := 2) (by omega) (by omega)
  obtain rfl := obs49 p5
  obtain rfl := sub49 p6
  obtain rfl := obs_alone p7
  have hb : b.count 4 = 5 := by
    obtain ⟨a, b', c, d, e, rfl, h0, h1, h2, h3, h4⟩ := fb.ex
    rw [obs94 h0, obs94 h1, obs94 h2, obs94 h3, obs94 h4]; rfl
  have hl : o.length = 3 := hp.length_eq
  have l1 := f1.len; have l2 := f2.len; have l3 := f3.len
  simp only [law4_awake, e1, e2, e3, e4, e5, e6, Option.bind_some, l1, l2, l3, g5, g6, g7, hl, hc, hb]
  simp
section
variable {l o : List Int} {k : Int} {i0 : Nat}
end
def insA (a : Int) : List Int → List Int
  | [] => [a]
  | x :: xs => if a < x then a :: x :: xs else x :: insA a xs
theorem insA_mem {a z : Int} : ∀ {xs : List Int}, z ∈ insA a xs ↔ z = a ∨ z ∈ xs
  | [] => by simp [insA]
  | x :: xs => by
    unfold insA
    split
    · simp
    · simp only [List.mem_cons, insA_mem]
      constructor
      · rintro (q | q | q) <;> simp [q]
      · rintro (q | q | q) <;> simp [q]
theorem insA_len (a : Int) : ∀ (xs : List Int), (insA a xs).length = xs.length + 1
  | [] => rfl
  | x :: xs => by unfold insA; split <;> simp [insA_len a xs]
theorem insA_so {a : Int} : ∀ {xs : List Int}, xs.Pairwise (· < ·) → a ∉ xs → (insA a xs).Pairwise (· < ·)
  | [], _, _ => by simp [insA]
  | x :: xs, h, ha => by
    rw [List.pairwise_cons] at h
    have hax : a ≠ x := fun e => ha (by simp [e])
    unfold insA
    split
    · rename_i hlt
      rw [List.pairwise_cons]
      refine ⟨fun y hy => ?_, List.pairwise_cons.2 h⟩
      rcases List.mem_cons.1 hy with rfl | hy
      · exact hlt
      · have := h.1 y hy; omega
    · rw [List.pairwise_cons]
      refine ⟨fun y hy => ?_, insA_so h.2 (fun q => ha (by simp [q]))⟩
      rcases insA_mem.1 hy with rfl | hy
      · omega
      · exact h.1 y hy
theorem insert_L1 (a : Int) : ∀ (xs : List Int) (v : Nat) (acc : List Int) (c : Bool), acc.length + xs.length + (if c = true then 0 else 1) ≤ 1000 → ref3_Insert_L1 (ref3_Insert_J3 a) a xs v (acc, c) = some (acc ++ if c = true then xs else insA a xs)
  | [], v, acc, c, h => by
    rw [ref3_Insert_L1, ref3_Insert_J3]
    cases c
    · simp only [Bool.false_eq_true, if_false] at h ⊢
      rw [apx_ok (by simp only [List.length_cons, List.length_nil] at h ⊢; omega)]; rfl
    · simp
  | x :: xs, v, acc, c, h => by
    simp only [List.length_cons] at h
    rw [ref3_Insert_L1]
    cases c
    · simp only [Bool.false_eq_true, if_false] at h ⊢
      by_cases e : a < x
      · simp only [e, decide_true, ref3_Insert_J1, if_true, ref3_Insert_J2]
        rw [apx_ok (by simp only [List.length_cons, List.length_nil]; omega), apx_ok (by simp only [List.length_append, List.length_cons, List.length_nil]; omega), insert_L1 a xs (v + 1) _ true (by simp; omega)]
        simp [insA, e]
      · simp only [e, decide_false, ref3_Insert_J1, Bool.false_eq_true, if_false, ref3_Insert_J2]
        rw [apx_ok (by simp only [List.length_cons, List.length_nil]; omega), insert_L1 a xs (v + 1) _ false (by simp; omega)]
        simp [insA, e]
    · simp only [if_true] at h
      simp only [if_true, ref3_Insert_J1, Bool.false_eq_true, if_false, ref3_Insert_J2]
      rw [apx_ok (by simp only [List.length_cons, List.length_nil]; omega), insert_L1 a xs (v + 1) _ true (by simp; omega)]
      simp
theorem insert_eq (N : Nat) (a : Int) (l : List Int) (h : l.length ≤ 100) : ref3_Insert N l a = some (insA a l) := by
  rw [ref3_Insert, insert_L1 a l 0 [] false (by simp; omega)]
  simp
theorem same_refl (N : Nat) (l : List Int) : law4_same N l l = some true := by
  unfold law4_same
  rw [if_pos rfl]
  have : ∀ (xs : List Int) (v : Nat), l.drop v = xs → law4_same_L1 l xs v () = some true := by
    intro xs
    induction xs with
    | nil => intro v _; rfl
    | cons x xs ih =>
      intro v hd
      have hvl : v < l.length := by
        rcases Nat.lt_or_ge v l.length with h | h
        · exact h
        · rw [List.drop_eq_nil_of_le h] at hd; simp at hd
      rw [List.drop_eq_getElem_cons hvl] at hd
      simp only [List.cons.injEq] at hd
      rw [law4_same_L1, gx_nat (show l[v]? = some x by rw [List.getElem?_eq_getElem hvl, hd.1]), if_pos rfl, ih (v + 1) hd.2]
  exact this l 0 rfl
end Go.Proofs.Ytjpeiibeemmdfaa

set_option linter.unusedSimpArgs false
set_option linter.unusedVariables false
namespace Go.Proofs.Ytjpeiibeemmdfaa
open Go Go.Proofs Go.Abs
end Go.Proofs.Ytjpeiibeemmdfaa

set_option linter.unusedSimpArgs false
set_option linter.unusedVariables false
namespace Go.Proofs.Ytjpeiibeemmdfaa
open Go Go.Proofs Go.Abs
def insZ : List Int → Int → List Int
  | [], x => [x]
  | a :: r, x => if x < a then a :: insZ r x else x :: a :: r
theorem insZ_len : ∀ (r : List Int) (x : Int), (insZ r x).length = r.length + 1
  | [], x => rfl
  | a :: r, x => by unfold insZ; split <;> simp [insZ_len r x]
theorem insZ_mem : ∀ {r : List Int} {x y : Int}, y ∈ insZ r x ↔ y = x ∨ y ∈ r
  | [], x, y => by simp [insZ]
  | a :: r, x, y => by
    unfold insZ
    split
    · simp only [List.mem_cons, insZ_mem]
      constructor
      · rintro (h | h | h) <;> simp [h]
      · rintro (h | h | h) <;> simp [h]
    · simp
def srtZ : List Int → List Int → List Int
  | ra, [] => ra
  | ra, x :: l => srtZ (insZ ra x) l
theorem srtZ_len : ∀ (l ra : List Int), (srtZ ra l).length = ra.length + l.length
  | [], ra => rfl
  | x :: l, ra => by rw [srtZ, srtZ_len l, insZ_len, List.length_cons]; omega
theorem srtZ_mem : ∀ {l ra : List Int} {y : Int}, y ∈ srtZ ra l ↔ y ∈ ra ∨ y ∈ l
  | [], ra, y => by simp [srtZ]
  | x :: l, ra, y => by
    rw [srtZ, srtZ_mem, insZ_mem, List.mem_cons]
    constructor
    · rintro ((h | h) | h) <;> simp [h]
    · rintro (h | h | h) <;> simp [h]
theorem insZ_so : ∀ {ra : List Int} {x : Int}, (ra.Pairwise fun a b => b ≤ a) → (insZ ra x).Pairwise fun a b => b ≤ a
  | [], x, _ => by simp [insZ]
  | a :: r, x, hp => by
    rw [List.pairwise_cons] at hp
    unfold insZ
    split
    · rw [List.pairwise_cons]
      refine ⟨fun b hb => ?_, insZ_so hp.2⟩
      rcases insZ_mem.1 hb with rfl | hb
      · omega
      · exact hp.1 b hb
    · rw [List.pairwise_cons]
      refine ⟨fun b hb => ?_, List.pairwise_cons.2 hp⟩
      rcases List.mem_cons.1 hb with rfl | hb
      · omega
      · have := hp.1 b hb; omega
theorem srtZ_so : ∀ {l ra : List Int}, (ra.Pairwise fun a b => b ≤ a) → (srtZ ra l).Pairwise fun a b => b ≤ a
  | [], ra, hp => hp
  | x :: l, ra, hp => by rw [srtZ]; exact srtZ_so (insZ_so hp)
theorem less_eq (N : Nat) (a b : Int) : cmp_Less_int N a b = some (decide (a < b)) := by
  simp [cmp_Less_int, cmp_isNaN_int]
theorem getZ {A B : List Int} {x : Int} {n : Nat} (h : A.length = n) : (A ++ x :: B)[n]? = some x := by subst h; simp
theorem setZ {A B : List Int} {x y : Int} {n : Nat} (h : A.length = n) : (A ++ x :: B).set n y = A ++ y :: B := by subst h; simp
theorem insO_L2 (N : Nat) (rec3 : (List Int × Int) → Option (List Int)) (v2 : Int) : ∀ (ra : List Int) (x : Int) (B : List Int) (n : Nat), ra.length < n → ra.length + B.length ≤ 1000 →
    slices_insertionSortOrdered_int_L2 0 N rec3 v2 n (ra.reverse ++ x :: B, (ra.length : Int)) = rec3 ((insZ ra x).reverse ++ B, IntKind.i64.wrap (v2 + 1))
  | [], x, B, 0, h, _ => by simp at h
  | [], x, B, n + 1, h, _ => by
    rw [slices_insertionSortOrdered_int_L2, if_neg (by simp)]
    simp [slices_insertionSortOrdered_int_J1, insZ]
  | a :: r, x, B, 0, h, _ => by simp at h
  | a :: r, x, B, n + 1, h, hb => by
    simp only [List.length_cons] at h hb
    have hl : ((a :: r).reverse ++ x :: B) = (r.reverse ++ [a]) ++ x :: B := by simp
    have hl2 : ((a :: r).reverse ++ x :: B) = r.reverse ++ a :: x :: B := by simp
    have g1 : ((a :: r).reverse ++ x :: B)[r.length + 1]? = some x := by rw [hl]; exact getZ (by simp)
    have g2 : ((a :: r).reverse ++ x :: B)[r.length]? = some a := by rw [hl2]; exact getZ (by simp)
    have ew : IntKind.i64.wrap ((((a :: r).length : Nat) : Int) - 1) = ((r.length : Nat) : Int) := by
      rw [List.length_cons, w64 (by omega) (by omega)]; omega
    rw [slices_insertionSortOrdered_int_L2, if_pos (by simp only [List.length_cons]; omega), ew, List.length_cons, gx_nat g1, gx_nat g2, less_eq, Option.bind_some]
    by_cases hx : x < a
    · have ew' : IntKind.i64.wrap (((r.length + 1 : Nat) : Int) - 1) = ((r.length : Nat) : Int) := by rw [w64 (by omega) (by omega)]; omega
      simp only [hx, decide_true, slices_insertionSortOrdered_int_J1, if_true, slices_insertionSortOrdered_int_J2, ew', gx_nat g2, gx_nat g1, Int.toNat_natCast]
      have s1 : ((a :: r).reverse ++ x :: B).set (r.length + 1) a = r.reverse ++ a :: a :: B := by rw [hl, setZ (by simp)]; simp
      have g3 : (r.reverse ++ a :: a :: B)[r.length]? = some a := getZ (by simp)
      rw [s1, gx_nat g3, setZ (by simp)]
      rw [insO_L2 N rec3 v2 r x (a :: B) n (by omega) (by simp only [List.length_cons]; omega)]
      simp [insZ, hx]
    · simp only [hx, decide_false, slices_insertionSortOrdered_int_J1, Bool.false_eq_true, if_false]
      simp [insZ, hx]
theorem insO_L1 (N : Nat) (hN : 1001 ≤ N) (a2 : Int) : ∀ (B ra : List Int) (n : Nat), B.length < n → a2 = ((ra.length + B.length : Nat) : Int) → ra.length + B.length ≤ 1000 →
    slices_insertionSortOrdered_int_L1 a2 0 N n (ra.reverse ++ B, (ra.length : Int)) = some (srtZ ra B).reverse
  | _, _, 0, h, _, _ => by omega
  | [], ra, n + 1, h, ha, hb => by
    rw [slices_insertionSortOrdered_int_L1, if_neg (by rw [ha]; simp)]
    simp [srtZ]
  | x :: B, ra, n + 1, h, ha, hb => by
    simp only [List.length_cons] at h ha hb
    rw [slices_insertionSortOrdered_int_L1, if_pos (by rw [ha]; omega), insO_L2 N _ _ ra x B N (by omega) (by omega)]
    have e : IntKind.i64.wrap ((ra.length : Int) + 1) = (((insZ ra x).length : Nat) : Int) := by rw [insZ_len, w64 (by omega) (by omega)]; omega
    rw [e, insO_L1 N hN a2 B (insZ ra x) n (by omega) (by rw [insZ_len, ha]; omega) (by rw [insZ_len]; omega), srtZ]
theorem insO_eq (N : Nat) (hN : 1001 ≤ N) (l : List Int) (hl : l.length ≤ 1000) : slices_insertionSortOrdered_int N l 0 (l.length : Int) = some (srtZ [] l).reverse := by
  have e : slices_insertionSortOrdered_int_L1 (l.length : Int) 0 N N (l, IntKind.i64.wrap (0 + 1)) = some (srtZ [] l).reverse := by
    rw [w64 (by omega) (by omega)]
    cases l with
    | nil =>
      obtain ⟨n, rfl⟩ : ∃ n, N = n + 1 := ⟨N - 1, by omega⟩
      rw [slices_insertionSortOrdered_int_L1, if_neg (by simp)]
      simp [srtZ]
    | cons x B =>
      have := insO_L1 N hN (((x :: B).length : Nat) : Int) B [x] N (by simp only [List.length_cons] at hl; omega) (by simp only [List.length_cons, List.length_nil]; omega) (by simp only [List.length_cons, List.length_nil] at hl ⊢; omega)
      simpa [srtZ, insZ] using this
  unfold slices_insertionSortOrdered_int
  rw [e]
  simp [lenM, srtZ_len]
set_option maxRecDepth 100000 in
theorem len64 (N : Nat) : ∀ n : Nat, n ≤ 12 → ∃ b, math_bits_Len N (IntKind.u64.wrap ((n : Nat) : Int)) = some b := by
  intro n hn
  have e : IntKind.u64.wrap ((n : Nat) : Int) = (n : Int) := by rw [u64_mod]; omega
  rw [e]
  have : n = 0 ∨ n = 1 ∨ n = 2 ∨ n = 3 ∨ n = 4 ∨ n = 5 ∨ n = 6 ∨ n = 7 ∨ n = 8 ∨ n = 9 ∨ n = 10 ∨ n = 11 ∨ n = 12 := by omega
  rcases this with rfl | rfl | rfl | rfl | rfl | rfl | rfl | rfl | rfl | rfl | rfl | rfl | rfl <;> exact ⟨_, rfl⟩
theorem sort_eq (N : Nat) (hN : 1001 ≤ N) (l : List Int) (hl : l.length ≤ 12) : slices_Sort_int N l = some (srtZ [] l).reverse := by
  have hi := insO_eq N hN l (by omega)
  obtain ⟨b, hb⟩ := len64 N l.length hl
  have e : ∀ b, slices_pdqsortOrdered_int N l 0 (l.length : Int) b = some (srtZ [] l).reverse := by
    intro b
    obtain ⟨n, hn⟩ : ∃ n, N = n + 1 := ⟨N - 1, by omega⟩
    unfold slices_pdqsortOrdered_int
    have : slices_pdqsortOrdered_int_L1 (l.length : Int) 0 N l b N () = some (srtZ [] l).reverse := by
      rw [hn, slices_pdqsortOrdered_int_L1, ← hn, w64 (by omega) (by omega), if_pos (by omega), hi, Option.bind_some]
    rw [this]
    simp [lenM, srtZ_len]
  unfold slices_Sort_int
  rw [hb, Option.bind_some, e]
  simp [lenM, srtZ_len]
theorem sort_spec (N : Nat) (hN : 1001 ≤ N) (l : List Int) (hl : l.length ≤ 12) : ∃ o, slices_Sort_int N l = some o ∧ o.length = l.length ∧ o.Pairwise (· ≤ ·) ∧ ∀ z, z ∈ o ↔ z ∈ l := by
  refine ⟨_, sort_eq N hN l hl, by simp [srtZ_len], ?_, fun z => by simp [srtZ_mem]⟩
  rw [List.pairwise_reverse]
  exact srtZ_so List.Pairwise.nil
theorem nodup_len : ∀ {c d : List Int}, c.Nodup → (∀ z ∈ c, z ∈ d) → c.length ≤ d.length
  | [], d, _, _ => by simp
  | x :: c, d, hn, hs => by
    rw [List.nodup_cons] at hn
    have hx := hs x (by simp)
    have := nodup_len (c := c) (d := d.erase x) hn.2 (fun z hz => (List.mem_erase_of_ne (fun e : z = x => hn.1 (e ▸ hz))).2 (hs z (by simp [hz])))
    rw [List.length_erase_of_mem hx] at this
    have := List.length_pos_of_mem hx
    simp only [List.length_cons]; omega
structure CInv (a l : List Int) (k j : Nat) : Prop where
  len : l.length = a.length
  kj : k ≤ j
  jl : j ≤ a.length
  j1 : 1 ≤ j
  so : (l.take k).Pairwise (· < ·)
  mem : ∀ z, z ∈ l.take k ↔ z ∈ a.take j
  rest : ∀ i, j ≤ i + 1 → l[i]? = a[i]?
  kj' : k ≤ j
theorem take_set_succ {l : List Int} {k : Nat} {x : Int} (h : k < l.length) : (l.set k x).take (k + 1) = l.take k ++ [x] := by
  rw [List.take_add_one, List.getElem?_set]
  simp only [if_true, h, Option.toList_some]
  rw [List.take_set_of_le (Nat.le_refl k)]
theorem compact_L2 (a : List Int) (hs : a.Pairwise (· ≤ ·)) (ha : a.length ≤ 1000) (v3 : Nat) (h1 : 1 ≤ v3) (kx : List Int → Int → Option (List Int)) :
    ∀ (n : Nat) (l : List Int) (k m : Nat), a.length < v3 + m + n → 1 ≤ m → CInv a l k (v3 + m) → k < v3 + m → ∃ l' k', CInv a l' k' a.length ∧ slices_Compact_int_L2 a v3 kx n (l, (k : Int), (m : Int)) = kx l' ((k' : Nat) : Int)
  | 0, l, k, m, hn, hm, h, hk => by have := h.jl; omega
  | n + 1, l, k, m, hn, hm, h, hk => by
    have hl := h.len; have hj := h.jl
    rw [slices_Compact_int_L2]
    by_cases hlt : v3 + m < a.length
    · rw [if_pos (by omega)]
      have e1 : l[v3 + m]? = a[v3 + m]? := h.rest _ (by omega)
      have e2 : l[v3 + (m - 1)]? = a[v3 + (m - 1)]? := h.rest _ (by omega)
      have g1 : ((l.drop v3).take (a.length - v3))[m]? = some a[v3 + m] := by
        rw [List.getElem?_take_of_lt (by omega), List.getElem?_drop, e1, List.getElem?_eq_getElem hlt]
      have g2 : ((l.drop v3).take (a.length - v3))[m - 1]? = some (a[v3 + (m - 1)]'(by omega)) := by
        rw [List.getElem?_take_of_lt (by omega), List.getElem?_drop, e2, List.getElem?_eq_getElem (by omega)]
      rw [gx_nat g1, w64 (by omega) (by omega), show ((m : Int) - 1) = ((m - 1 : Nat) : Int) by omega, gx_nat g2, w64 (n := (m : Int) + 1) (by omega) (by omega), show ((m : Int) + 1) = ((m + 1 : Nat) : Int) by omega]
      have htk : ∀ z, z ∈ a.take (v3 + m + 1) ↔ z ∈ a.take (v3 + m) ∨ z = a[v3 + m] := by
        intro z
        rw [List.take_add_one, List.getElem?_eq_getElem hlt, List.mem_append, Option.toList_some, List.mem_singleton]
      have hprev : (a[v3 + (m - 1)]'(by omega)) ∈ a.take (v3 + m) := by
        refine List.mem_of_getElem? (i := v3 + (m - 1)) ?_
        rw [List.getElem?_take_of_lt (by omega), List.getElem?_eq_getElem (by omega)]
      by_cases e : a[v3 + m] = (a[v3 + (m - 1)]'(by omega))
      · rw [if_pos e]
        refine compact_L2 a hs ha v3 h1 kx n l k (m + 1) (by omega) (by omega) ⟨hl, by have := h.kj; omega, by omega, by omega, h.so, fun z => ?_, fun i hi => h.rest i (by omega), by omega⟩ (by omega)
        rw [h.mem, ← Nat.add_assoc, htk]
        constructor
        · exact .inl
        · rintro (q | q)
          · exact q
          · rw [q, e]; exact hprev
      · rw [if_neg e]
        have hkl : k < l.length := by omega
        rw [gx_nat (List.getElem?_eq_getElem hkl), w64 (n := (k : Int) + 1) (by omega) (by omega), show ((k : Int) + 1) = ((k + 1 : Nat) : Int) by omega, Int.toNat_natCast]
        refine compact_L2 a hs ha v3 h1 kx n (l.set k a[v3 + m]) (k + 1) (m + 1) (by omega) (by omega) ⟨by simp [hl], by omega, by omega, by omega, ?_, fun z => ?_, fun i hi => ?_, by omega⟩ (by omega)
        · rw [take_set_succ hkl, List.pairwise_append]
          refine ⟨h.so, by simp, fun y hy z hz => ?_⟩
          obtain rfl := List.mem_singleton.1 hz
          have hy' := (h.mem y).1 hy
          obtain ⟨i, hi⟩ := List.mem_iff_getElem?.1 hy'
          have hil := (List.getElem?_eq_some_iff.1 hi).1
          simp only [List.length_take] at hil
          rw [List.getElem?_take_of_lt (by omega), List.getElem?_eq_getElem (by omega), Option.some.injEq] at hi
          have hp1 : (a[v3 + (m - 1)]'(by omega)) ≤ a[v3 + m] := List.pairwise_iff_getElem.1 hs _ _ (by omega) hlt (by omega)
          rcases Nat.lt_or_ge i (v3 + (m - 1)) with q | q
          · have := List.pairwise_iff_getElem.1 hs i (v3 + (m - 1)) (by omega) (by omega) q
            omega
          · have : i = v3 + (m - 1) := by omega
            subst this; omega
        · rw [take_set_succ hkl, List.mem_append, List.mem_singleton, h.mem, ← Nat.add_assoc, htk]
        · rw [List.getElem?_set_ne (by omega)]; exact h.rest i (by omega)
    · rw [if_neg (by omega)]
      have : v3 + m = a.length := by omega
      rw [this] at h
      exact ⟨l, k, h, rfl⟩
theorem compact_J1 {a l : List Int} {k : Nat} (h : CInv a l k a.length) : slices_Compact_int_J1 l (k : Int) = some (l.take k) := by
  have h1 := h.len; have h2 := h.kj
  unfold slices_Compact_int_J1 slx
  rw [Int.toNat_natCast, if_pos ⟨by omega, by omega, by omega, by omega⟩]
  dsimp only
  rw [if_pos ⟨by omega, by omega, by omega, by rw [clr_len (by omega)]; omega⟩]
  try dsimp only
  rw [clr_take (by omega)]
theorem compact_L1 (N : Nat) (a : List Int) (hs : a.Pairwise (· ≤ ·)) (ha : a.length ≤ 1000) (hN : 1002 ≤ N) : ∀ (m v : Nat), v + m = a.length → 1 ≤ v → (a.take v).Pairwise (· < ·) → ∃ r, slices_Compact_int_L1 a N m v () = some r ∧ r.Pairwise (· < ·) ∧ ∀ z, z ∈ r ↔ z ∈ a
  | 0, v, hv, h1, hp => ⟨a, rfl, by rwa [List.take_of_length_le (by omega)] at hp, fun z => Iff.rfl⟩
  | m + 1, v, hv, h1, hp => by
    have hvl : v < a.length := by omega
    have g1 : a[v]? = some a[v] := List.getElem?_eq_getElem hvl
    have g2 : a[v - 1]? = some (a[v - 1]'(by omega)) := List.getElem?_eq_getElem (by omega)
    have hprev : (a[v - 1]'(by omega)) ∈ a.take v := by
      refine List.mem_of_getElem? (i := v - 1) ?_
      rw [List.getElem?_take_of_lt (by omega), g2]
    have htk : ∀ z, z ∈ a.take (v + 1) ↔ z ∈ a.take v ∨ z = a[v] := by
      intro z
      rw [List.take_add_one, g1, List.mem_append, Option.toList_some, List.mem_singleton]
    rw [slices_Compact_int_L1, gx_nat g1, w64 (by omega) (by omega), show ((v : Int) - 1) = ((v - 1 : Nat) : Int) by omega, gx_nat g2]
    by_cases e : a[v] = (a[v - 1]'(by omega))
    · rw [if_pos e]
      unfold slx
      rw [if_pos ⟨by omega, by omega, by omega, by omega⟩]
      dsimp only
      have hc : CInv a a v (v + 1) := ⟨rfl, by omega, by omega, by omega, hp, fun z => by
        rw [htk]
        constructor
        · exact .inl
        · rintro (q | q)
          · exact q
          · rw [q, e]; exact hprev, fun i _ => rfl, by omega⟩
      obtain ⟨l', k', h', e'⟩ := compact_L2 a hs ha v h1 slices_Compact_int_J1 N a v 1 (by omega) (by omega) hc (by omega)
      rw [show ((1 : Int)) = ((1 : Nat) : Int) from rfl, e', compact_J1 h']
      exact ⟨_, rfl, h'.so, fun z => by rw [h'.mem, List.take_of_length_le (Nat.le_refl _)]⟩
    · rw [if_neg e]
      refine compact_L1 N a hs ha hN m (v + 1) (by omega) (by omega) ?_
      rw [List.take_add_one, g1, Option.toList_some, List.pairwise_append]
      refine ⟨hp, by simp, fun y hy z hz => ?_⟩
      obtain rfl := List.mem_singleton.1 hz
      obtain ⟨i, hi⟩ := List.mem_iff_getElem?.1 hy
      have hil := (List.getElem?_eq_some_iff.1 hi).1
      simp only [List.length_take] at hil
      rw [List.getElem?_take_of_lt (by omega), List.getElem?_eq_getElem (by omega), Option.some.injEq] at hi
      have hp1 : (a[v - 1]'(by omega)) ≤ a[v] := List.pairwise_iff_getElem.1 hs _ _ (by omega) hvl (by omega)
      rcases Nat.lt_or_ge i (v - 1) with q | q
      · have := List.pairwise_iff_getElem.1 hs i (v - 1) (by omega) (by omega) q
        omega
      · have : i = v - 1 := by omega
        subst this; omega
theorem compact_eq (N : Nat) (hN : 1002 ≤ N) (a : List Int) (hs : a.Pairwise (· ≤ ·)) (ha : a.length ≤ 1000) : ∃ r, slices_Compact_int N a = some r ∧ r.Pairwise (· < ·) ∧ ∀ z, z ∈ r ↔ z ∈ a := by
  unfold slices_Compact_int
  by_cases h : ((a.length : Nat) : Int) < 2
  · rw [if_pos h]
    refine ⟨a, rfl, ?_, fun z => Iff.rfl⟩
    match a, h with
    | [], _ => exact List.Pairwise.nil
    | [x], _ => simp
    | _ :: _ :: _, h => simp at h; omega
  · rw [if_neg h]
    refine compact_L1 N a hs ha hN (a.length - 1) 1 (by omega) (by omega) ?_
    match a, h with
    | x :: xs, _ => simp
theorem nb1_eq (N : Nat) (x id : Int) : overlay_Neighbours_1 N x id = some (decide (x = id)) := rfl
theorem index_L1 (N : Nat) (id : Int) : ∀ (xs : List Int) (v : Nat), (id ∉ xs ∧ slices_IndexFunc_int_overlay_Neighbours_1_L1 N id xs v () = some (-1)) ∨ ∃ i, xs[i]? = some id ∧ id ∉ xs.take i ∧ slices_IndexFunc_int_overlay_Neighbours_1_L1 N id xs v () = some ((v + i : Nat) : Int)
  | [], v => .inl ⟨by simp, rfl⟩
  | x :: xs, v => by
    rw [slices_IndexFunc_int_overlay_Neighbours_1_L1, nb1_eq, Option.bind_some]
    by_cases e : x = id
    · exact .inr ⟨0, by simp [e], by simp, by simp [e]⟩
    · have e' : ¬ id = x := fun q => e q.symm
      rcases index_L1 N id xs (v + 1) with ⟨h1, h2⟩ | ⟨i, h1, h2, h3⟩
      · exact .inl ⟨by simp [e', h1], by simp [e, h2]⟩
      · refine .inr ⟨i + 1, by simpa using h1, by simp [e', h2], ?_⟩
        simp only [e, decide_false, Bool.false_eq_true, if_false, h3]
        congr 2; omega
def neB (id : Int) (x : Int) : Bool := !decide (x = id)
structure DInv (a l : List Int) (id : Int) (i j : Nat) : Prop where
  len : l.length = a.length
  ij : i < j
  jl : j ≤ a.length
  pre : l.take i = (a.take j).filter (neB id)
  rest : ∀ q, j ≤ q → l[q]? = a[q]?
theorem delete_L1 (N : Nat) (a : List Int) (id : Int) (ha : a.length ≤ 1000) (kx : List Int → Int → Option (List Int)) : ∀ (n : Nat) (l : List Int) (i j : Nat), a.length < j + n → DInv a l id i j → ∃ l' i', DInv a l' id i' a.length ∧ slices_DeleteFunc_int_overlay_Neighbours_1_L1 N id kx n (l, (i : Int), (j : Int)) = kx l' ((i' : Nat) : Int)
  | 0, l, i, j, hn, h => by have := h.jl; omega
  | n + 1, l, i, j, hn, h => by
    have hl := h.len; have hij := h.ij; have hj := h.jl
    rw [slices_DeleteFunc_int_overlay_Neighbours_1_L1]
    by_cases hlt : j < a.length
    · have g1 : l[j]? = some a[j] := by rw [h.rest j (Nat.le_refl _), List.getElem?_eq_getElem hlt]
      have htk : a.take (j + 1) = a.take j ++ [a[j]] := by rw [List.take_add_one, List.getElem?_eq_getElem hlt]; rfl
      rw [if_pos (by omega), gx_nat g1, nb1_eq, Option.bind_some, w64 (n := (j : Int) + 1) (by omega) (by omega), show ((j : Int) + 1) = ((j + 1 : Nat) : Int) by omega]
      by_cases e : a[j] = id
      · simp only [e, decide_true, if_true]
        refine delete_L1 N a id ha kx n l i (j + 1) (by omega) ⟨hl, by omega, by omega, ?_, fun q hq => h.rest q (by omega)⟩
        rw [h.pre, htk, List.filter_append]; simp [neB, e]
      · have hil : i < l.length := by omega
        simp only [e, decide_false, Bool.false_eq_true, if_false]
        rw [gx_nat (List.getElem?_eq_getElem hil), w64 (n := (i : Int) + 1) (by omega) (by omega), show ((i : Int) + 1) = ((i + 1 : Nat) : Int) by omega, Int.toNat_natCast]
        refine delete_L1 N a id ha kx n (l.set i a[j]) (i + 1) (j + 1) (by omega) ⟨by simp [hl], by omega, by omega, ?_, fun q hq => by rw [List.getElem?_set_ne (by omega)]; exact h.rest q (by omega)⟩
        rw [take_set_succ hil, h.pre, htk, List.filter_append]; simp [neB, e]
    · rw [if_neg (by omega)]
      have : j = a.length := by omega
      subst this
      exact ⟨l, i, h, rfl⟩
theorem delete_eq (N : Nat) (hN : 1001 ≤ N) (a : List Int) (id : Int) (ha : a.length ≤ 1000) : slices_DeleteFunc_int_overlay_Neighbours_1 N a id = some (a.filter (neB id)) := by
  unfold slices_DeleteFunc_int_overlay_Neighbours_1 slices_IndexFunc_int_overlay_Neighbours_1
  rcases index_L1 N id a 0 with ⟨h1, h2⟩ | ⟨i, h1, h2, h3⟩
  · rw [h2, Option.bind_some, if_pos rfl]
    have hf : a.filter (neB id) = a := List.filter_eq_self.2 (fun x hx => by
      simp only [neB]
      by_cases e : x = id
      · exact absurd (e ▸ hx) h1
      · simp [e])
    rw [hf]
  · have hil := (List.getElem?_eq_some_iff.1 h1).1
    rw [h3, Option.bind_some, if_neg (by omega), Nat.zero_add, w64 (by omega) (by omega), show ((i : Int) + 1) = ((i + 1 : Nat) : Int) by omega]
    have hd : DInv a a id i (i + 1) := ⟨rfl, by omega, by omega, by
      rw [List.take_add_one, h1, Option.toList_some, List.filter_append]
      have e1 : (a.take i).filter (neB id) = a.take i := List.filter_eq_self.2 fun x hx => by
        simp only [neB]
        by_cases e : x = id
        · exact absurd (e ▸ hx) h2
        · simp [e]
      rw [e1]; simp [neB], fun _ _ => rfl⟩
    obtain ⟨l', i', h', e'⟩ := delete_L1 N a id ha slices_DeleteFunc_int_overlay_Neighbours_1_J1 N a i (i + 1) (by omega) hd
    rw [e']
    have q1 := h'.len; have q2 := h'.ij
    unfold slices_DeleteFunc_int_overlay_Neighbours_1_J1 slx
    rw [Int.toNat_natCast, if_pos ⟨by omega, by omega, by omega, by omega⟩]
    dsimp only
    rw [if_pos ⟨by omega, by omega, by omega, by rw [clr_len (by omega)]; omega⟩]
    try dsimp only
    rw [clr_take (by omega), h'.pre, List.take_of_length_le (Nat.le_refl _)]
theorem nb_of (N : Nat) (hN : 1002 ≤ N) {l r1 r2 : List Int} {id : Int} (e1 : overlay_Observers N l id = some r1) (e2 : overlay_Subjects N l id = some r2) (l1 : r1.length ≤ 5) (l2 : r2.length ≤ 5) :
    ∃ n, overlay_Neighbours N l id = some n ∧ n.Pairwise (· < ·) ∧ ∀ z, z ∈ n ↔ z ≠ id ∧ (z ∈ r1 ∨ z ∈ r2) := by
  unfold overlay_Neighbours
  rw [e1, Option.bind_some, e2, Option.bind_some, apx_ok (by omega)]
  obtain ⟨o, q1, q2, q3, q4⟩ := sort_spec N (by omega) (r1 ++ r2) (by rw [List.length_append]; omega)
  obtain ⟨c, p1, p2, p3⟩ := compact_eq N hN o q3 (by rw [q2, List.length_append]; omega)
  have hcl : c.length ≤ 1000 := by
    have := nodup_len (c := c) (d := r1 ++ r2) (p2.imp (fun h => by omega)) (fun z hz => (q4 z).1 ((p3 z).1 hz))
    rw [List.length_append] at this; omega
  rw [q1, Option.bind_some, p1, Option.bind_some, delete_eq N (by omega) c id hcl, Option.bind_some]
  refine ⟨_, rfl, p2.sublist List.filter_sublist, fun z => ?_⟩
  rw [List.mem_filter, p3, q4, List.mem_append]
  simp [neB, and_comm]
theorem Five.mem {P : Int → Int → Prop} {r : List Int} (h : Five P r) {z : Int} (hz : z ∈ r) : ∃ k, 0 ≤ k ∧ k < 5 ∧ P k z := by
  obtain ⟨a, b, c, d, e, rfl, h0, h1, h2, h3, h4⟩ := h.ex
  simp only [List.mem_cons, List.not_mem_nil, or_false] at hz
  rcases hz with rfl | rfl | rfl | rfl | rfl
  · exact ⟨0, by omega, by omega, h0⟩
  · exact ⟨1, by omega, by omega, h1⟩
  · exact ⟨2, by omega, by omega, h2⟩
  · exact ⟨3, by omega, by omega, h3⟩
  · exact ⟨4, by omega, by omega, h4⟩
end Go.Proofs.Ytjpeiibeemmdfaa

set_option linter.unusedSimpArgs false
set_option linter.unusedVariables false
namespace Go.Proofs.Ytjpeiibeemmdfaa
open Go Go.Proofs Go.Abs
theorem rmix_eq (N : Nat) (hN : 1 ≤ N) (b : W64) : ref2_Mix N (U b) = some (U (mixB b)) := by
  obtain ⟨n, rfl⟩ : ∃ n, N = n + 1 := ⟨N - 1, by omega⟩
  simp only [ref2_Mix, brN]
  rw [x30, m1, x27, m2, x31]
  rfl
theorem rpos_eq (N : Nat) (hN : 1 ≤ N) (k id : Int) : ref2_Position N k id = some (pos k id) := by
  have e : IntKind.u64.wrap (IntKind.u64.wrap k + (IntKind.u64.wrap (11400714819323198485 * (IntKind.u64.wrap (IntKind.u64.wrap id + 1))))) = U (BitVec.ofInt 64 k + cg * (BitVec.ofInt 64 id + 1)) := by
    rw [wrapU k, wrapU id, wrapU (U _ + 1), wrapU (11400714819323198485 * U _), wrapU (U _ + U _), BitVec.ofInt_add, BitVec.ofInt_add, BitVec.ofInt_mul, ofU, ofU, ofU, ofU]; rfl
  simp only [ref2_Position, ref2_Combine, e, rmix_eq N hN, Option.bind_some]
  rfl
theorem so_ext {p : Int → Int} : ∀ {a b : List Int}, (a.Pairwise fun x y => p x < p y) → (b.Pairwise fun x y => p x < p y) → (∀ z, z ∈ a ↔ z ∈ b) → a = b
  | [], [], _, _, _ => rfl
  | [], y :: b, _, _, h => by have := (h y).2 (by simp); simp at this
  | x :: a, [], _, _, h => by have := (h x).1 (by simp); simp at this
  | x :: a, y :: b, ha, hb, h => by
    rw [List.pairwise_cons] at ha hb
    have e : x = y := by
      rcases List.mem_cons.1 ((h x).1 (by simp)) with q | q
      · exact q
      · rcases List.mem_cons.1 ((h y).2 (by simp)) with q' | q'
        · exact q'.symm
        · have := ha.1 y q'; have := hb.1 x q; omega
    subst e
    have ht : ∀ z, z ∈ a ↔ z ∈ b := by
      intro z
      constructor
      · intro hz
        rcases List.mem_cons.1 ((h z).1 (by simp [hz])) with q | q
        · subst q; have := ha.1 z hz; omega
        · exact q
      · intro hz
        rcases List.mem_cons.1 ((h z).2 (by simp [hz])) with q | q
        · subst q; have := hb.1 z hz; omega
        · exact q
    rw [so_ext ha.2 hb.2 ht]
def ipos (p : Int → Int) (x : Int) : List Int → Nat
  | [] => 0
  | y :: ys => if p y < p x then ipos p x ys + 1 else 0
theorem ipos_le (p : Int → Int) (x : Int) : ∀ l : List Int, ipos p x l ≤ l.length
  | [] => Nat.le_refl _
  | y :: ys => by unfold ipos; split <;> simp [ipos_le p x ys]
def insP (p : Int → Int) (x : Int) (l : List Int) : List Int := l.take (ipos p x l) ++ x :: l.drop (ipos p x l)
theorem insP_nil (p : Int → Int) (x : Int) : insP p x [] = [x] := by simp [insP, ipos]
theorem insP_cons (p : Int → Int) (x y : Int) (ys : List Int) : insP p x (y :: ys) = if p y < p x then y :: insP p x ys else x :: y :: ys := by
  unfold insP
  by_cases h : p y < p x
  · simp [ipos, h]
  · simp [ipos, h]
theorem insP_perm (p : Int → Int) (x : Int) : ∀ l : List Int, (insP p x l).Perm (x :: l)
  | [] => by rw [insP_nil]
  | y :: ys => by
    rw [insP_cons]
    split
    · exact ((insP_perm p x ys).cons y).trans (List.Perm.swap x y ys)
    · exact List.Perm.refl _
theorem insP_so {p : Int → Int} {x : Int} : ∀ {l : List Int}, (l.Pairwise fun a b => p a < p b) → (∀ y ∈ l, p y ≠ p x) → (insP p x l).Pairwise fun a b => p a < p b
  | [], _, _ => by rw [insP_nil]; simp
  | y :: ys, h, hne => by
    rw [insP_cons]
    have hyx := hne y (by simp)
    have h' := List.pairwise_cons.1 h
    split
    · rename_i hlt
      rw [List.pairwise_cons]
      refine ⟨fun b hb => ?_, insP_so h'.2 (fun z hz => hne z (by simp [hz]))⟩
      rcases List.mem_cons.1 ((insP_perm p x ys).mem_iff.1 hb) with rfl | hb
      · exact hlt
      · exact h'.1 b hb
    · rw [List.pairwise_cons]
      refine ⟨fun b hb => ?_, h⟩
      rcases List.mem_cons.1 hb with rfl | hb
      · omega
      · have := h'.1 b hb; omega
theorem rord_L2 (N : Nat) (hN : 1 ≤ N) (kx : Int → Option (List Int)) (k x : Int) : ∀ (xs : List Int) (v : Nat), ref4_Order_L2 kx N k x xs v () = kx ((v + ipos (pos k) x xs : Nat) : Int)
  | [], v => by rw [ref4_Order_L2, ipos, Nat.add_zero]
  | y :: ys, v => by
    rw [ref4_Order_L2, rpos_eq N hN, Option.bind_some, rpos_eq N hN, Option.bind_some, ipos]
    by_cases h : pos k y < pos k x
    · rw [if_pos h, if_pos h, rord_L2 N hN kx k x ys (v + 1), Nat.add_right_comm, Nat.add_assoc]
    · rw [if_neg h, if_neg h, Nat.add_zero]
theorem rord_J2 (l : List Int) (x : Int) (rec8 : List Int → Option (List Int)) (i : Nat) (hi : i ≤ l.length) (hl : l.length ≤ 1000) : ref4_Order_J2 l x rec8 (i : Int) = rec8 (l.take i ++ x :: l.drop i) := by
  unfold ref4_Order_J2 slx
  rw [if_pos ⟨by omega, by omega, by simp, by simp [hi]⟩, apn_ok (by simp only [List.length_take]; omega), apx_ok (by simp only [List.length_take, List.length_cons, List.length_nil]; omega), if_pos ⟨by omega, by omega, by simp [hi], by simp⟩, apx_ok (by simp only [List.length_append, List.length_take, List.length_drop, List.length_cons, List.length_nil]; omega)]
  have e1 : (l.drop i).take (l.length - i) = l.drop i := List.take_of_length_le (by simp)
  simp only [Int.toNat_natCast, List.append_assoc, List.singleton_append, e1]
theorem rord_L1 (N : Nat) (hN : 1 ≤ N) (k : Int) : ∀ (xs : List Int) (v : Nat) (acc : List Int), acc.length + xs.length ≤ 1000 → (∀ x ∈ acc ++ xs, ∀ y ∈ acc ++ xs, pos k x = pos k y → x = y) → (acc ++ xs).Nodup → (acc.Pairwise fun a b => pos k a < pos k b) →
    ∃ o, ref4_Order_L1 N k xs v acc = some o ∧ o.Perm (acc ++ xs) ∧ o.Pairwise fun a b => pos k a < pos k b
  | [], v, acc, _, _, _, hs => ⟨acc, rfl, by simp, hs⟩
  | x :: xs, v, acc, hl, hinj, hnd, hs => by
    simp only [List.length_cons] at hl
    have hpl := ipos_le (pos k) x acc
    have hp := insP_perm (pos k) x acc
    have hpp : (insP (pos k) x acc ++ xs).Perm (acc ++ x :: xs) := (hp.append_right xs).trans (by simpa using (List.perm_middle (a := x) (l₁ := acc) (l₂ := xs)).symm)
    rw [ref4_Order_L1, rord_L2 N hN, rord_J2 acc x _ _ (by omega) (by omega), Nat.zero_add]
    have hne : ∀ y ∈ acc, pos k y ≠ pos k x := by
      intro y hy e
      have := hinj y (by simp [hy]) x (by simp) e
      subst this
      rw [List.nodup_append] at hnd
      exact hnd.2.2 y hy y (by simp) rfl
    obtain ⟨o, e, q1, q2⟩ := rord_L1 N hN k xs (v + 1) (insP (pos k) x acc) (by rw [hp.length_eq, List.length_cons]; omega) (fun a ha b hb => hinj a (hpp.mem_iff.1 ha) b (hpp.mem_iff.1 hb)) (hpp.symm.nodup hnd) (insP_so hs hne)
    exact ⟨o, e, q1.trans hpp, q2⟩
theorem rorder_eq (N : Nat) (hN : 1 ≤ N) {l : List Int} (h : VM l) {k : Int} (k0 : 0 ≤ k) (k1 : k < 5) : ∃ o, ref4_Order N l k = some o ∧ o.Perm l ∧ o.Pairwise fun a b => pos k a < pos k b := by
  have hl := h.l2
  obtain ⟨o, e, q1, q2⟩ := rord_L1 N hN k l 0 [] (by simp; omega) (by simpa using (h.ring k).inj) (by simpa using h.nd) List.Pairwise.nil
  refine ⟨o, ?_, by simpa using q1, q2⟩
  have : ¬ 5 ≤ k := by omega
  simp only [ref4_Order, ref_valid, VMb_iff.2 h, Option.bind_some, if_true]
  rw [if_neg (by omega)]
  simp only [this, decide_false, ref4_Order_J1, Bool.false_eq_true, if_false, ref4_Order_J3, e]
theorem order_both (N : Nat) (hN : 1 ≤ N) (l : List Int) (k : Int) : ∃ o, overlay_Order N l k = some o ∧ ref4_Order N l k = some o := by
  by_cases hv : VMb l = true
  · by_cases hk : 0 ≤ k ∧ k < 5
    · have h := VMb_iff.1 hv
      obtain ⟨o, e1, p1, s1⟩ := order_eq N hN h hk.1 hk.2
      obtain ⟨o', e2, p2, s2⟩ := rorder_eq N hN h hk.1 hk.2
      have : o = o' := so_ext s1 s2 (fun z => by rw [p1.mem_iff, p2.mem_iff])
      exact ⟨o, e1, this ▸ e2⟩
    · refine ⟨[], ?_, ?_⟩
      · simp only [overlay_Order, view_valid, hv, Option.bind_some, if_true]
        split
        · simp [overlay_Order_J1]
        · have : 5 ≤ k := by omega
          simp [this, overlay_Order_J1]
      · simp only [ref4_Order, ref_valid, hv, Option.bind_some, if_true]
        split
        · simp [ref4_Order_J1]
        · have : 5 ≤ k := by omega
          simp [this, ref4_Order_J1]
  · refine ⟨[], ?_, ?_⟩
    · simp [overlay_Order, view_valid, hv, overlay_Order_J1]
    · simp [ref4_Order, ref_valid, hv, ref4_Order_J1]
theorem ahead_L1 (N : Nat) (hN : 1 ≤ N) (k id : Int) : ∀ (xs : List Int) (v : Nat) (b : Int), (xs.Pairwise fun a b => pos k a < pos k b) → ∃ r, ref4_Ahead_L1 N k id xs v b = some r ∧ ((r = b ∧ ∀ m ∈ xs, ¬ pos k m < pos k id) ∨ (r ∈ xs ∧ pos k r < pos k id ∧ ∀ m ∈ xs, pos k m < pos k id → pos k m ≤ pos k r))
  | [], v, b, _ => ⟨b, rfl, .inl ⟨rfl, by simp⟩⟩
  | x :: xs, v, b, hs => by
    rw [List.pairwise_cons] at hs
    rw [ref4_Ahead_L1, rpos_eq N hN, Option.bind_some, rpos_eq N hN, Option.bind_some]
    by_cases h : pos k x < pos k id
    · rw [if_pos h]
      obtain ⟨r, e, q⟩ := ahead_L1 N hN k id xs (v + 1) x hs.2
      refine ⟨r, e, .inr ?_⟩
      rcases q with ⟨rfl, q⟩ | ⟨q1, q2, q3⟩
      · refine ⟨by simp, h, fun m hm hlt => ?_⟩
        rcases List.mem_cons.1 hm with rfl | hm
        · exact Int.le_refl _
        · exact absurd hlt (q m hm)
      · refine ⟨by simp [q1], q2, fun m hm hlt => ?_⟩
        rcases List.mem_cons.1 hm with rfl | hm
        · have := hs.1 r q1; omega
        · exact q3 m hm hlt
    · rw [if_neg h]
      obtain ⟨r, e, q⟩ := ahead_L1 N hN k id xs (v + 1) b hs.2
      refine ⟨r, e, ?_⟩
      rcases q with ⟨rfl, q⟩ | ⟨q1, q2, q3⟩
      · refine .inl ⟨rfl, fun m hm => ?_⟩
        rcases List.mem_cons.1 hm with rfl | hm
        · exact h
        · exact q m hm
      · refine .inr ⟨by simp [q1], q2, fun m hm hlt => ?_⟩
        rcases List.mem_cons.1 hm with rfl | hm
        · exact absurd hlt h
        · exact q3 m hm hlt
theorem obs_of_ahead {p : Int → Int} {o l : List Int} (hrg : ∀ z, 0 ≤ p z ∧ p z < 18446744073709551616) (hp : o.Perm l) (hs : o.Pairwise fun a b => p a < p b) {id r b : Int} (hb : b ∈ o) (hlast : ∀ m ∈ o, p m ≤ p b)
    (h : (r = b ∧ ∀ m ∈ o, ¬ p m < p id) ∨ (r ∈ o ∧ p r < p id ∧ ∀ m ∈ o, p m < p id → p m ≤ p r)) : IsObs p l id r := by
  rcases h with ⟨rfl, q⟩ | ⟨q1, q2, q3⟩
  · refine ⟨hp.mem_iff.1 hb, fun m hm => ?_⟩
    have hm' := hp.mem_iff.2 hm
    have := hlast m hm'; have := q m hm'; have := q r hb
    have := hrg m; have := hrg r; have := hrg id
    unfold fw; omega
  · refine ⟨hp.mem_iff.1 q1, fun m hm => ?_⟩
    have hm' := hp.mem_iff.2 hm
    have := q3 m hm'
    have := hrg m; have := hrg r; have := hrg id
    unfold fw; omega
theorem ahead_eq (N : Nat) (hN : 1 ≤ N) {l : List Int} (h : VM l) {k : Int} (k0 : 0 ≤ k) (k1 : k < 5) (id : Int) : ∃ r, ref4_Ahead N l k id = some r ∧ IsObs (pos k) l id r := by
  obtain ⟨o, e, hp, hs⟩ := rorder_eq N hN h k0 k1
  have hlen := hp.length_eq
  have h1 := h.l1; have h2 := h.l2
  have hlt : o.length - 1 < o.length := by omega
  have g : o[o.length - 1]? = some o[o.length - 1] := List.getElem?_eq_getElem hlt
  obtain ⟨r, er, hr⟩ := ahead_L1 N hN k id o 0 o[o.length - 1] hs
  refine ⟨r, ?_, obs_of_ahead (pos_rg k) hp hs (List.getElem_mem hlt) (fun m hm => ?_) hr⟩
  · rw [ref4_Ahead, e, Option.bind_some, w64 (by omega) (by omega), show ((o.length : Nat) : Int) - 1 = ((o.length - 1 : Nat) : Int) by omega, gx_nat g, er]
  · obtain ⟨j, hj, rfl⟩ := List.getElem_of_mem hm
    rcases Nat.lt_or_ge j (o.length - 1) with q | q
    · exact Int.le_of_lt (List.pairwise_iff_getElem.1 hs j _ hj hlt q)
    · have : j = o.length - 1 := by omega
      subst this; exact Int.le_refl _
theorem robs_eq (N : Nat) (hN : 1 ≤ N) {l : List Int} (h : VM l) {id : Int} (hid : 1 ≤ id ∧ id ≤ 1000) (hne : ¬ l = [id]) : ∃ r, ref4_Observers N l id = some r ∧ Five (fun k b => IsObs (pos k) l id b) r := by
  obtain ⟨s0, q0, p0⟩ := ahead_eq N hN h (k := 0) (by omega) (by omega) id
  obtain ⟨s1, q1, p1⟩ := ahead_eq N hN h (k := 1) (by omega) (by omega) id
  obtain ⟨s2, q2, p2⟩ := ahead_eq N hN h (k := 2) (by omega) (by omega) id
  obtain ⟨s3, q3, p3⟩ := ahead_eq N hN h (k := 3) (by omega) (by omega) id
  obtain ⟨s4, q4, p4⟩ := ahead_eq N hN h (k := 4) (by omega) (by omega) id
  refine ⟨[s0, s1, s2, s3, s4], ?_, ⟨s0, s1, s2, s3, s4, rfl, p0, p1, p2, p3, p4⟩⟩
  have hJ : ref4_Observers_J2 N l id = some [s0, s1, s2, s3, s4] := by
    unfold ref4_Observers_J2
    rw [q0, Option.bind_some, apn_ok (by simp), q1, Option.bind_some, apx_ok (by simp), q2, Option.bind_some, apx_ok (by simp), q3, Option.bind_some, apx_ok (by simp), q4, Option.bind_some, apx_ok (by simp)]
    rfl
  simp only [ref4_Observers, ref_valid, VMb_iff.2 h, isid_eq, hid.1, hid.2, decide_true, Bool.and_self, Option.bind_some, if_true]
  by_cases h1 : l.length = 1
  · rw [if_pos (by omega)]
    match l, h1, hne with
    | [x], _, hne =>
    have hx : ¬ x = id := fun q => hne (by rw [q])
    rw [show ((0 : Int)) = ((0 : Nat) : Int) from rfl, gx_nat (show ([x] : List Int)[0]? = some x from rfl)]
    simp [hx, ref4_Observers_J1, hJ]
  · rw [if_neg (by omega)]
    simp [ref4_Observers_J1, hJ]
theorem Five.uniq {P : Int → Int → Prop} (hu : ∀ k x y, P k x → P k y → x = y) {r s : List Int} (h1 : Five P r) (h2 : Five P s) : r = s := by
  obtain ⟨a', b', c', d', e', rfl, g0, g1, g2, g3, g4⟩ := h2.ex
  obtain ⟨a, b, c, d, e, rfl, h0, h1, h2, h3, h4⟩ := h1.ex
  rw [hu _ _ _ h0 g0, hu _ _ _ h1 g1, hu _ _ _ h2 g2, hu _ _ _ h3 g3, hu _ _ _ h4 g4]
theorem obs_both (N : Nat) (hN : 1 ≤ N) (l : List Int) (id : Int) : ∃ r, overlay_Observers N l id = some r ∧ ref4_Observers N l id = some r ∧ r.length ≤ 5 ∧ ∀ z ∈ r, 1 ≤ z ∧ z ≤ 1000 := by
  by_cases hv : VMb l = true
  · have h := VMb_iff.1 hv
    by_cases hid : 1 ≤ id ∧ id ≤ 1000
    · by_cases hne : l = [id]
      · refine ⟨[], ?_, ?_, by simp, by simp⟩
        · subst hne
          simp only [overlay_Observers, view_valid, hv, oident, hid.1, hid.2, decide_true, Bool.and_self, Option.bind_some, if_true, List.length_cons, List.length_nil]
          rw [if_pos (by simp), show ((0 : Int)) = ((0 : Nat) : Int) from rfl, gx_nat (show ([id] : List Int)[0]? = some id from rfl)]
          simp [overlay_Observers_J1]
        · subst hne
          simp only [ref4_Observers, ref_valid, hv, isid_eq, hid.1, hid.2, decide_true, Bool.and_self, Option.bind_some, if_true, List.length_cons, List.length_nil]
          rw [if_pos (by simp), show ((0 : Int)) = ((0 : Nat) : Int) from rfl, gx_nat (show ([id] : List Int)[0]? = some id from rfl)]
          simp [ref4_Observers_J1]
      · obtain ⟨r, e, f⟩ := observers_eq N hN h hid hne
        obtain ⟨r', e', f'⟩ := robs_eq N hN h hid hne
        have : r = r' := f.uniq (fun k x y => obs_uniq (h.ring k)) f'
        refine ⟨r, e, this ▸ e', by rw [f.len]; omega, fun z hz => ?_⟩
        obtain ⟨k, _, _, hp⟩ := f.mem hz
        exact h.rg z hp.1
    · have hb : (decide (1 ≤ id) && decide (id ≤ 1000)) = false := by
        by_cases q : 1 ≤ id
        · have : ¬ id ≤ 1000 := fun z => hid ⟨q, z⟩
          simp [this]
        · simp [q]
      refine ⟨[], ?_, ?_, by simp, by simp⟩
      · simp [overlay_Observers, view_valid, hv, oident, hb, overlay_Observers_J1]
      · simp [ref4_Observers, ref_valid, hv, isid_eq, hb, ref4_Observers_J1]
  · refine ⟨[], ?_, ?_, by simp, by simp⟩
    · simp [overlay_Observers, view_valid, hv, overlay_Observers_J1]
    · simp [ref4_Observers, ref_valid, hv, ref4_Observers_J1]
theorem rplace_L1 (a : Int) : ∀ (xs : List Int) (v : Nat), ref3_Place_L1 a xs v () = view_Place_L1 a xs v ()
  | [], v => rfl
  | x :: xs, v => by rw [ref3_Place_L1, view_Place_L1, rplace_L1 a xs]
theorem rplace_eq (N : Nat) (o : List Int) (a : Int) : ref3_Place N o a = view_Place N o a := by
  rw [ref3_Place, view_Place, rplace_L1]
theorem rcontains_eq (N : Nat) (a : Int) (o : List Int) : ref3_Contains N o a = some (decide (a ∈ o)) := by
  rw [← contains_eq N, ref3_Contains, view_Contains, rplace_eq]
theorem rsub_step (N : Nat) (hN : 1 ≤ N) (l : List Int) (a k : Int) {β : Type} (K : Int → Option β) : ((ref4_Order N l k).bind fun r => (ref3_Place N r a).bind fun q => dvx ((r.length : Nat) : Int) <| gx r (Int.tmod (IntKind.i64.wrap (q + 1)) ((r.length : Nat) : Int)) K) = ((overlay_Order N l k).bind fun r => (view_Place N r a).bind fun q => dvx ((r.length : Nat) : Int) <| gx r (Int.tmod (IntKind.i64.wrap (q + 1)) ((r.length : Nat) : Int)) K) := by
  obtain ⟨o, e1, e2⟩ := order_both N hN l k
  rw [e1, e2, Option.bind_some, Option.bind_some, rplace_eq]
theorem rsubjects_J2 (N : Nat) (hN : 1 ≤ N) (l : List Int) (a : Int) : ref4_Subjects_J2 N l a = overlay_Subjects_J2 N l a := by
  unfold ref4_Subjects_J2 overlay_Subjects_J2
  simp only [rsub_step N hN]
theorem sub_both (N : Nat) (hN : 1 ≤ N) (l : List Int) (a : Int) : ∃ r, overlay_Subjects N l a = some r ∧ ref4_Subjects N l a = some r ∧ r.length ≤ 5 ∧ ∀ z ∈ r, 1 ≤ z ∧ z ≤ 1000 := by
  by_cases hv : VMb l = true
  · have h := VMb_iff.1 hv
    have h1 := h.l1
    by_cases hg : 2 ≤ l.length ∧ a ∈ l
    · obtain ⟨r, e, f⟩ := subjects_eq N hN h hg.1 hg.2
      refine ⟨r, e, ?_, by rw [f.len]; omega, fun z hz => ?_⟩
      · have n1 : ¬ ((l.length : Nat) : Int) = 1 := by omega
        have n2 : ¬ ((l.length : Nat) : Int) < 2 := by omega
        have hs := hg.2
        simp only [overlay_Subjects, view_valid, hv, contains_eq, hs, decide_true, Option.bind_some, if_true, n1, decide_false, overlay_Subjects_J1, Bool.false_eq_true, if_false] at e
        simp only [ref4_Subjects, ref_valid, hv, rcontains_eq, hs, decide_true, Option.bind_some, if_true, n2, decide_false, ref4_Subjects_J1, Bool.false_eq_true, if_false, Bool.not_true, rsubjects_J2 N hN, e]
      · obtain ⟨k, _, _, hp⟩ := f.mem hz
        exact h.rg z hp.1
    · refine ⟨[], ?_, ?_, by simp, by simp⟩
      · simp only [overlay_Subjects, view_valid, hv, contains_eq, Option.bind_some, if_true]
        by_cases hm : a ∈ l
        · have : ((l.length : Nat) : Int) = 1 := by
            rcases Nat.lt_or_ge l.length 2 with q | q
            · omega
            · exact absurd ⟨q, hm⟩ hg
          simp [hm, this, overlay_Subjects_J1]
        · simp [hm, overlay_Subjects_J1]
      · simp only [ref4_Subjects, ref_valid, hv, rcontains_eq, Option.bind_some, if_true]
        by_cases hl : ((l.length : Nat) : Int) < 2
        · simp [hl, ref4_Subjects_J1]
        · have hm : a ∉ l := fun q => hg ⟨by omega, q⟩
          simp [hl, hm, ref4_Subjects_J1]
  · refine ⟨[], ?_, ?_, by simp, by simp⟩
    · simp [overlay_Subjects, view_valid, hv, overlay_Subjects_J1]
    · simp [ref4_Subjects, ref_valid, hv, ref4_Subjects_J1]
theorem rshared_L1 (x : Int) : ∀ (xs : List Int) (v : Nat) (acc : List Int), ref4_Shared_L1 x xs v acc = overlay_Shared_L1 x xs v acc
  | [], v, acc => rfl
  | y :: ys, v, acc => by
    rw [ref4_Shared_L1, overlay_Shared_L1]
    simp only [rshared_L1 x ys]
theorem shared_no (x : Int) : ∀ (xs : List Int) (v : Nat) (acc : List Int), x ∉ xs → overlay_Shared_L1 x xs v acc = some acc
  | [], v, acc, _ => rfl
  | y :: ys, v, acc, h => by
    rw [overlay_Shared_L1, if_neg (fun e => h (by simp [e])), shared_no x ys _ _ (fun q => h (by simp [q]))]
theorem shared_both (N : Nat) (hN : 1 ≤ N) (l : List Int) (x m : Int) : ∃ r, overlay_Shared N l x m = some r ∧ ref4_Shared N l x m = some r := by
  obtain ⟨b, e1, e2, hl, hr⟩ := obs_both N hN l m
  obtain ⟨r, q1, _⟩ := shared_L1 x b 0 [] (by omega) (by simp; omega)
  by_cases hx : 1 ≤ x ∧ x ≤ 1000
  · refine ⟨r, ?_, ?_⟩
    · simp only [overlay_Shared, oident, hx.1, hx.2, decide_true, Bool.and_self, Option.bind_some, if_true, e1, q1]
    · simp only [ref4_Shared, e2, Option.bind_some, rshared_L1, q1]
  · have hb : (decide (1 ≤ x) && decide (x ≤ 1000)) = false := by
      by_cases q : 1 ≤ x
      · have : ¬ x ≤ 1000 := fun z => hx ⟨q, z⟩
        simp [this]
      · simp [q]
    refine ⟨[], ?_, ?_⟩
    · simp [overlay_Shared, oident, hb]
    · simp only [ref4_Shared, e2, Option.bind_some, rshared_L1]
      exact shared_no x b 0 [] (fun q => hx (hr x q))
theorem rnb_L1 (N : Nat) (id : Int) : ∀ (xs : List Int) (v : Nat) (acc : List Int), acc.length + xs.length ≤ 100 → acc.Pairwise (· < ·) → ∃ r, ref4_Neighbours_L1 id N xs v acc = some r ∧ r.Pairwise (· < ·) ∧ ∀ z, z ∈ r ↔ z ∈ acc ∨ (z ≠ id ∧ z ∈ xs)
  | [], v, acc, _, hs => ⟨acc, rfl, hs, fun z => by simp⟩
  | x :: xs, v, acc, hl, hs => by
    simp only [List.length_cons] at hl
    rw [ref4_Neighbours_L1]
    by_cases e : x = id
    · rw [if_pos e]
      simp only [ref4_Neighbours_J1, Bool.false_eq_true, if_false]
      obtain ⟨r, q1, q2, q3⟩ := rnb_L1 N id xs (v + 1) acc (by omega) hs
      refine ⟨r, q1, q2, fun z => ?_⟩
      rw [q3, List.mem_cons]
      constructor
      · rintro (q | ⟨q, q'⟩)
        · exact .inl q
        · exact .inr ⟨q, .inr q'⟩
      · rintro (q | ⟨q, q' | q'⟩)
        · exact .inl q
        · exact absurd (q'.trans e) q
        · exact .inr ⟨q, q'⟩
    · rw [if_neg e, rcontains_eq, Option.bind_some]
      by_cases hm : x ∈ acc
      · simp only [hm, decide_true, Bool.not_true, ref4_Neighbours_J1, Bool.false_eq_true, if_false]
        obtain ⟨r, q1, q2, q3⟩ := rnb_L1 N id xs (v + 1) acc (by omega) hs
        refine ⟨r, q1, q2, fun z => ?_⟩
        rw [q3, List.mem_cons]
        constructor
        · rintro (q | ⟨q, q'⟩)
          · exact .inl q
          · exact .inr ⟨q, .inr q'⟩
        · rintro (q | ⟨q, q' | q'⟩)
          · exact .inl q
          · exact .inl (q' ▸ hm)
          · exact .inr ⟨q, q'⟩
      · simp only [hm, decide_false, Bool.not_false, ref4_Neighbours_J1, if_true]
        rw [insert_eq N x acc (by omega), Option.bind_some]
        obtain ⟨r, q1, q2, q3⟩ := rnb_L1 N id xs (v + 1) (insA x acc) (by rw [insA_len]; omega) (insA_so hs hm)
        refine ⟨r, q1, q2, fun z => ?_⟩
        rw [q3, List.mem_cons, insA_mem]
        constructor
        · rintro ((q | q) | ⟨q, q'⟩)
          · exact .inr ⟨q ▸ e, .inl q⟩
          · exact .inl q
          · exact .inr ⟨q, .inr q'⟩
        · rintro (q | ⟨q, q' | q'⟩)
          · exact .inl (.inr q)
          · exact .inl (.inl q')
          · exact .inr ⟨q, q'⟩
theorem nb_both (N : Nat) (hN : 1002 ≤ N) (l : List Int) (id : Int) : ∃ r, overlay_Neighbours N l id = some r ∧ ref4_Neighbours N l id = some r := by
  obtain ⟨r1, e1, g1, l1, _⟩ := obs_both N (by omega) l id
  obtain ⟨r2, e2, g2, l2, _⟩ := sub_both N (by omega) l id
  obtain ⟨n, en, sn, mn⟩ := nb_of N hN e1 e2 l1 l2
  obtain ⟨r, q1, q2, q3⟩ := rnb_L1 N id (r1 ++ r2) 0 [] (by simp; omega) List.Pairwise.nil
  have : n = r := so_ext (p := fun x => x) sn q2 (fun z => by rw [mn, q3]; simp)
  refine ⟨n, en, ?_⟩
  rw [ref4_Neighbours, g1, Option.bind_some, apn_ok (by omega), g2, Option.bind_some, apx_ok (by omega), q1, this]
theorem plain_OverlayTells (l : List Int) (a1 a2 a3 : Int) : law4_OverlayTells 2000 l a1 a2 a3 = some true := by
  rw [law4_OverlayTells, awake4 2000 (by omega)]
  simp only [Option.bind_some, if_true]
  split
  · rfl
  obtain ⟨r1, e1, g1⟩ := order_both 2000 (by omega) l a1
  obtain ⟨r2, e2, g2, _⟩ := obs_both 2000 (by omega) l a2
  obtain ⟨r3, e3, g3, _⟩ := sub_both 2000 (by omega) l a2
  obtain ⟨r4, e4, g4⟩ := shared_both 2000 (by omega) l a2 a3
  obtain ⟨r5, e5, g5⟩ := nb_both 2000 (by omega) l a2
  simp only [e1, g1, e2, g2, e3, g3, e4, g4, e5, g5, Option.bind_some, same_refl, if_true]
end Go.Proofs.Ytjpeiibeemmdfaa
