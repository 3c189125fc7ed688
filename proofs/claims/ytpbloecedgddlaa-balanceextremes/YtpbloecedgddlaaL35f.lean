/- The laws BalancePlans and BalanceLeast, in plain words. -/
import Derived.Test.YtpbloecedgddlaaL35e
set_option linter.unusedSimpArgs false
set_option linter.unusedVariables false
namespace Go.Proofs.Ytpbloecedgddlaa
open Go Go.Proofs Go.Abs

/-! ## Lists of loads -/

def ldl : List Int → Nat → List Load
  | [], _ => []
  | x :: xs, v => if v < 16 then ⟨3 * v + 1, Int.tmod x 1001⟩ :: ldl xs (v + 1) else []

theorem loads_L1 : ∀ (xs : List Int) (v : Nat) (acc : List Load), (∀ x ∈ xs, 0 ≤ x ∧ x ≤ 65535) → acc.length ≤ v → v ≤ 16 → law35_loads_L1 xs v acc = some (acc ++ ldl xs v)
  | [], v, acc, _, _, _ => by simp [law35_loads_L1, ldl]
  | x :: xs, v, acc, hx, hl, hv => by
    have h := hx x (by simp)
    simp only [law35_loads_L1, ldl]
    by_cases c : v < 16
    · have c' : (v : Int) < 16 := by omega
      have w1 : IntKind.i64.wrap (3 * (v : Int)) = 3 * (v : Int) := w64 (by omega) (by omega)
      have w2 : IntKind.i64.wrap (3 * (v : Int) + 1) = 3 * (v : Int) + 1 := w64 (by omega) (by omega)
      have w3 : IntKind.i64.wrap x = x := w64 (by omega) (by omega)
      rw [if_pos c', if_pos c, w1, w2, w3, apx_ok (by simp; omega)]
      rw [loads_L1 xs (v + 1) _ (fun y hy => hx y (by simp [hy])) (by simp; omega) (by omega)]
      simp
    · have c' : ¬ (v : Int) < 16 := by omega
      rw [if_neg c', if_neg c]; simp

theorem ldl_length : ∀ (xs : List Int) (v : Nat), (ldl xs v).length ≤ 16 - v
  | [], v => by simp [ldl]
  | x :: xs, v => by
    simp only [ldl]
    split
    · have := ldl_length xs (v + 1); simp only [List.length_cons]; omega
    · simp
theorem ldl_bd : ∀ (xs : List Int) (v : Nat), (∀ x ∈ xs, 0 ≤ x ∧ x ≤ 65535) → Bd (ldl xs v)
  | [], v, _ => by intro z hz; simp [ldl] at hz
  | x :: xs, v, hx => by
    have h := hx x (by simp)
    simp only [ldl]
    split
    · intro z hz
      rcases List.mem_cons.1 hz with rfl | hz
      · have h1 := Int.tmod_nonneg 1001 h.1
        have h2 := Int.tmod_lt_of_pos x (show (0 : Int) < 1001 by omega)
        exact ⟨h1, by simp only; omega⟩
      · exact ldl_bd xs (v + 1) (fun y hy => hx y (by simp [hy])) z hz
    · intro z hz; simp at hz
theorem ldl_rising : ∀ (xs : List Int) (v : Nat) (p : Int), p < 3 * (v : Int) + 1 → risingB p ((ldl xs v).map Load.Member) = true
  | [], v, p, _ => by simp [ldl, risingB]
  | x :: xs, v, p, hp => by
    simp only [ldl]
    split
    · simp only [List.map_cons, risingB, Bool.and_eq_true, decide_eq_true_eq]
      exact ⟨⟨hp, by omega⟩, ldl_rising xs (v + 1) _ (by omega)⟩
    · simp [risingB]
theorem ldl_VL {xs : List Int} (hx : ∀ x ∈ xs, 0 ≤ x ∧ x ≤ 65535) (hp : 1 ≤ (ldl xs 0).length) : VL (ldl xs 0) :=
  ⟨hp, by have := ldl_length xs 0; omega, ldl_bd xs 0 hx, ldl_rising xs 0 0 (by omega)⟩
theorem loads_eq (N : Nat) {xs : List Int} (hx : ∀ x ∈ xs, 0 ≤ x ∧ x ≤ 65535) : law35_loads N xs = some (ldl xs 0) := by
  rw [law35_loads, loads_L1 xs 0 [] hx (by simp) (by omega), List.nil_append]

theorem u16_bd {xs : List Int} (h : ∀ x ∈ xs, (Lit.int .u16 x).wf = true) : ∀ x ∈ xs, 0 ≤ x ∧ x ≤ 65535 := by
  intro x hx
  have := h x hx
  simpa [Lit.wf, IntKind.min, IntKind.max, IntKind.signed, IntKind.bits] using this

/-! ## A plan carried out -/

theorem of_member (N : Nat) {l : List Load} (h : VL l) {i : Nat} {x : Load} (hx : l[i]? = some x) : ref35_of N l x.Member = some (i : Int) := by
  have hp := (rising_lt _ _ h.ris).2
  rcases of_spec N l x.Member with h1 | ⟨k, y, h1, hy, hym⟩
  · exfalso
    have key : ∀ (xs : List Load) (v : Nat), (∃ z ∈ xs, z.Member = x.Member) → ref35_of_L1 x.Member xs v () ≠ some (-1) := by
      intro xs
      induction xs with
      | nil => rintro v ⟨z, hz, _⟩; cases hz
      | cons z zs ih =>
        rintro v ⟨u, hu, hum⟩
        simp only [ref35_of_L1]
        split
        · intro h; simp only [Option.some.injEq] at h; omega
        · rename_i c
          rcases List.mem_cons.1 hu with rfl | hu
          · exact absurd hum c
          · exact ih (v + 1) ⟨u, hu, hum⟩
    exact key l 0 ⟨x, List.mem_of_getElem? hx, rfl⟩ h1
  · have : k = i := by
      have hlt := (List.getElem?_eq_some_iff.1 hx).1
      have hlk := (List.getElem?_eq_some_iff.1 hy).1
      have e1 : (l.map Load.Member)[i]'(by simpa using hlt) = x.Member := by
        obtain ⟨_, e⟩ := List.getElem?_eq_some_iff.1 hx; simp [e]
      have e2 : (l.map Load.Member)[k]'(by simpa using hlk) = x.Member := by
        obtain ⟨_, e⟩ := List.getElem?_eq_some_iff.1 hy; simp [e, hym]
      rcases Nat.lt_trichotomy k i with c | c | c
      · have := List.pairwise_iff_getElem.1 hp k i (by simpa using hlk) (by simpa using hlt) c
        rw [e1, e2] at this; omega
      · exact c
      · have := List.pairwise_iff_getElem.1 hp i k (by simpa using hlt) (by simpa using hlk) c
        rw [e1, e2] at this; omega
    rw [h1, this]

theorem apply_cons (N : Nat) {l : List Load} (h : VL l) {i j : Nat} {x y : Load} (hne : i ≠ j) (hx : l[i]? = some x) (hy : l[j]? = some y) (h1 : 1 ≤ x.Actors) (h2 : y.Actors ≤ 999) (ms : List LoadMove) (v : Nat) :
    ref35_Apply_L1 N (⟨x.Member, y.Member⟩ :: ms) v l = ref35_Apply_L1 N ms (v + 1) (mv l i j x y) := by
  have bx := h.bd.get hx
  have by' := h.bd.get hy
  have w1 : IntKind.i64.wrap (x.Actors - 1) = x.Actors - 1 := w64 (by omega) (by omega)
  have w2 : IntKind.i64.wrap (y.Actors + 1) = y.Actors + 1 := w64 (by omega) (by omega)
  simp only [ref35_Apply_L1, of_member N h hx, of_member N h hy, Option.bind_some, ref35_Apply_J1, ref35_Apply_J2, ref35_Apply_J3, ref35_Apply_J4]
  rw [if_neg (show ¬ ((i : Int) < 0) by omega)]
  rw [show decide ((j : Int) < 0) = false from decide_eq_false (by omega)]
  simp only [Bool.false_eq_true, if_false]
  rw [if_neg (show ¬ ((i : Int) = (j : Int)) by omega)]
  simp only [gx_nat hx, gx_nat hy]
  rw [if_neg (show ¬ x.Actors = 0 by omega), show decide (y.Actors = 1000) = false from decide_eq_false (by omega)]
  simp only [Bool.false_eq_true, if_false, Int.toNat_natCast, w1, gx_nat (get_set_ne hne hy), w2]
  rfl

/-- What a plan leads to. -/
theorem plan_run (N : Nat) : ∀ (n : Nat) (l : List Load) (acc : List LoadMove), VL l → sq l < n → (acc.length : Int) + sq l ≤ 1000000000 →
    ∃ ms out, balance_Plan_L1 N n (l, acc) = some (acc ++ ms) ∧ (∀ v, ref35_Apply_L1 N ms v l = some (out, 0)) ∧ VL out ∧ sumA out = sumA l ∧ (ms.length : Int) = need l ∧
      ∃ i j y z, IsLeast out i ∧ IsMost out j ∧ out[i]? = some y ∧ out[j]? = some z ∧ z.Actors - y.Actors ≤ 1
  | 0, l, acc, _, h, _ => by have := sq_nonneg l; omega
  | n + 1, l, acc, hv, hn, hacc => by
    obtain ⟨i, j, e1, hi, hj⟩ := bal_extremes N l hv.pos
    have hi0 := hi
    have hj0 := hj
    obtain ⟨z, hz, hzl⟩ := hi
    obtain ⟨y, hy, hyl⟩ := hj
    have bz := hv.bd.get hz
    have by' := hv.bd.get hy
    have hmax : ∀ u ∈ l, u.Actors ≤ y.Actors := fun u hu => by obtain ⟨k, hk⟩ := List.getElem?_of_mem hu; exact (hyl k u hk).1
    have hmin : ∀ u ∈ l, z.Actors ≤ u.Actors := fun u hu => by obtain ⟨k, hk⟩ := List.getElem?_of_mem hu; exact (hzl k u hk).1
    have w0 : IntKind.i64.wrap (y.Actors - z.Actors) = y.Actors - z.Actors := w64 (by omega) (by omega)
    simp only [balance_Plan_L1, e1, Option.bind_some, gx_nat hy, gx_nat hz, w0]
    by_cases c : y.Actors - z.Actors ≤ 1
    · refine ⟨[], l, by simp [c], fun v => rfl, hv, rfl, ?_, i, j, z, y, hi0, hj0, hz, hy, c⟩
      rw [need_even hv (List.mem_of_getElem? hy) (List.mem_of_getElem? hz) hmax hmin c]; rfl
    · have hne : j ≠ i := by rintro rfl; rw [hy] at hz; obtain rfl := Option.some.inj hz; omega
      have w1 : IntKind.i64.wrap (y.Actors - 1) = y.Actors - 1 := w64 (by omega) (by omega)
      have w2 : IntKind.i64.wrap (z.Actors + 1) = z.Actors + 1 := w64 (by omega) (by omega)
      have hq := sq_nonneg l
      simp only [c, if_false, Int.toNat_natCast, w1, gx_nat (get_set_ne hne hz), w2]
      have hap : ∀ (β : Type) (k : List LoadMove → Option β), apx 16 acc [⟨y.Member, z.Member⟩] k = k (acc ++ [⟨y.Member, z.Member⟩]) := fun β k => apx_ok (by simp; omega)
      rw [hap]
      have s1 : sq (mv l j i y z) = sq l - y.Actors * y.Actors + (y.Actors - 1) * (y.Actors - 1) - z.Actors * z.Actors + (z.Actors + 1) * (z.Actors + 1) := mv_sum (fun x => x.Actors * x.Actors) hne hy hz
      have s2 : (y.Actors - 1) * (y.Actors - 1) = y.Actors * y.Actors - 2 * y.Actors + 1 := by rw [Int.sub_mul, Int.mul_sub]; omega
      have s3 : (z.Actors + 1) * (z.Actors + 1) = z.Actors * z.Actors + 2 * z.Actors + 1 := by rw [Int.add_mul, Int.mul_add]; omega
      rw [s2, s3] at s1
      have hv' : VL (mv l j i y z) := mv_VL hv hne hy hz (by omega) (by omega)
      obtain ⟨ms, out, g1, g2, g3, g4, g5, g6⟩ := plan_run N n (mv l j i y z) (acc ++ [⟨y.Member, z.Member⟩]) hv' (by omega) (by simp; omega)
      refine ⟨⟨y.Member, z.Member⟩ :: ms, out, ?_, fun v => ?_, g3, ?_, ?_, g6⟩
      · have : balance_Plan_L1 N n (mv l j i y z, acc ++ [⟨y.Member, z.Member⟩]) = some (acc ++ [⟨y.Member, z.Member⟩] ++ ms) := g1
        rw [List.append_assoc] at this
        exact this
      · rw [apply_cons N hv hne hy hz (by omega) (by omega)]; exact g2 (v + 1)
      · rw [g4, mv_total hne hy hz]
      · have := need_plan hv hy hz hmax hmin (by omega)
        simp only [List.length_cons]; omega

theorem spread_eq (N : Nat) {l : List Load} (h : VL l) {i j : Nat} {y z : Load} (hi : IsLeast l i) (hj : IsMost l j) (hy : l[i]? = some y) (hz : l[j]? = some z) : balance_Spread N l = some (z.Actors - y.Actors) := by
  obtain ⟨i', j', e1, hi', hj'⟩ := bal_extremes N l h.pos
  obtain rfl := hi.unique hi'
  obtain rfl := hj.unique hj'
  have by' := h.bd.get hy
  have bz := h.bd.get hz
  have := h.le
  rw [balance_Spread, bal_Valid N l (by omega), (VB_iff l).2 h]
  simp only [Option.bind_some, if_true, e1, gx_nat hz, gx_nat hy]
  rw [w64 (by omega) (by omega)]

theorem bal_Apply (N : Nat) {l : List Load} (h : VL l) (ms : List LoadMove) : balance_Apply N l ms = ref35_Apply_L1 N ms 0 l := by
  have := h.le
  rw [balance_Apply, bal_Valid N l (by omega), (VB_iff l).2 h]
  simp only [Option.bind_some, if_true, slices_Clone_Load, apn_ok (show l.length * (16 + 1) ≤ 140737488355328 by omega), apply_L1]

theorem bal_Plan (N : Nat) {l : List Load} (h : VL l) : balance_Plan N l = balance_Plan_L1 N N (l, []) := by
  have := h.le
  rw [balance_Plan, bal_Valid N l (by omega), (VB_iff l).2 h]
  simp only [Option.bind_some, if_true, slices_Clone_Load, apn_ok (show l.length * (16 + 1) ≤ 140737488355328 by omega)]

theorem empty_not (N : Nat) : balance_Valid N [] = some false := by rw [bal_Valid N [] (by simp)]; rfl

theorem plain_BalancePlans (xs : List Int) (hx : ∀ x ∈ xs, 0 ≤ x ∧ x ≤ 65535) : law35_BalancePlans 16000001 xs = some true := by
  simp only [law35_BalancePlans, awake35, Option.bind_some, if_true, loads_eq _ hx]
  by_cases c : ((ldl xs 0).length : Int) = 0
  · have e : ldl xs 0 = [] := List.eq_nil_of_length_eq_zero (by omega)
    rw [e]
    simp [balance_Needed, balance_Plan, empty_not]
  · have hv : VL (ldl xs 0) := ldl_VL hx (by omega)
    generalize ldl xs 0 = l at hv c
    have hle := hv.le
    have hb := sq_bd l hv.bd
    obtain ⟨ms, out, g1, g2, g3, g4, g5, i, j, y, z, hi, hj, hy, hz, hd⟩ := plan_run 16000001 16000001 l [] hv (by omega) (by simp; omega)
    rw [List.nil_append] at g1
    have hb' := sq_bd out g3.bd
    have hle' := g3.le
    obtain ⟨ms', out', f1, f2, f3, f4, f5, _⟩ := plan_run 16000001 16000001 out [] g3 (by omega) (by simp; omega)
    rw [List.nil_append] at f1
    have hmax : ∀ u ∈ out, u.Actors ≤ z.Actors := fun u hu => by obtain ⟨k, hk⟩ := List.getElem?_of_mem hu; obtain ⟨z', hz', h⟩ := hj; rw [hz] at hz'; obtain rfl := Option.some.inj hz'; exact (h k u hk).1
    have hmin : ∀ u ∈ out, y.Actors ≤ u.Actors := fun u hu => by obtain ⟨k, hk⟩ := List.getElem?_of_mem hu; obtain ⟨y', hy', h⟩ := hi; rw [hy] at hy'; obtain rfl := Option.some.inj hy'; exact (h k u hk).1
    have hn0 := need_even g3 (List.mem_of_getElem? hz) (List.mem_of_getElem? hy) hmax hmin hd
    have hms' : (ms'.length : Int) = 0 := by rw [f5, hn0]
    simp only [c, if_false, bal_Plan _ hv, g1, Option.bind_some, bal_Apply _ hv, g2, if_true, spread_eq _ g3 hi hj hy hz, hd, bal_Total _ g3, bal_Total _ hv, g4, (needed_both _ hv).1, g5, bal_Plan _ g3, f1, hms', bal_Valid _ out (by omega), (VB_iff out).2 g3]

end Go.Proofs.Ytpbloecedgddlaa
