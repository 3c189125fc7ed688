/- The statement BalanceExtremesSaid is proved: for every input the law BalanceExtremes returns true, and what it was given reads as before. No condition. -/
import Derived.Test.YtpbloecedgddlaaRows
import Derived.Test.YtpbloecedgddlaaWB
import Derived.Test.YtpbloecedgddlaaM
import Derived.Test.YtpbloecedgddlaaL35a
import Derived.Test.YtpbloecedgddlaaL35b
import Derived.Test.YtpbloecedgddlaaL35c
import Derived.Test.YtpbloecedgddlaaL35d
import Derived.Test.YtpbloecedgddlaaL35e
import Derived.Test.YtpbloecedgddlaaL35f
import Derived.Test.YtpbloecedgddlaaL35i
import Derived.WalkKit
import Derived.ProofKit
import Derived.OpenShut
set_option linter.unusedSimpArgs false
set_option linter.unusedVariables false
set_option maxRecDepth 100000
namespace Go.Proofs.Ytpbloecedgddlaa
open Go Go.Proofs Go.Abs Go.ChangeShapes Go.WideShapes Go.ChangeAt Go.RowKit
open Go.ChangeMaps (open_string shut_string)
theorem cells41 : Try.prog.cellsOf 41 = 1 := by kernel_rfl
theorem cells36 : Try.prog.cellsOf 36 = 1 := by kernel_rfl
theorem plain : (y0 : (List Int)) → (y0.length ≤ maxLen ∧ ∀ z0 ∈ y0, (Lit.int .u16 z0).wf = true) → ∃ N, law35_BalanceExtremes N y0 = some true := fun xs h => ⟨16000001, plain_BalanceExtremes xs (u16_bd h.2)⟩
theorem own : ownKnob Try.prog.godebug = none := by kernel_rfl
theorem laidOut : laidOutB Try.prog = true := by kernel_rfl
theorem readable : ((Try.f7.params.toList).all fun t => Try.prog.readableRec t && decide (t < Try.prog.types.size)) = true := by kernel_rfl
theorem contract (H : Type) (enc : TypeId × Value → H) (W : World) (base : Nat) (args : Array Value) (ds gs : List (DataW H)) (before : List MemPlace)
    (hval : ∀ (j : Nat) t v, Try.f7.params[j]? = some t → args[j]? = some v → Value.okWide Try.prog W .any base t v)
    (hW : DataW.Whole enc Try.prog Try.f7.params.toList Rows.balanceExtremesSpec.vars false W args.toList ds gs before) :
    Calls Try.prog 7 args W fun e W' => ∃ v, e = .returned v ∧ Rows.balanceExtremesSpec.post enc Try.prog Try.f7 false true false false W args v W' := by
  have hW0 := hW
  obtain ⟨p, q, hA0, hV, rfl, hfz, hnd⟩ := hW
  have hA : DataW.TrodAll enc Try.prog W 0 (fun _ => true) true Try.f7.params.toList args.toList ds p := hA0
  rw [Try.params7] at hA hval
  obtain ⟨v0, vs0, d0, ds0, p0, q0, hargs, rfl, rfl, h0, t0⟩ := trodAll_cons hA
  obtain ⟨hn1, rfl, rfl⟩ := trodAll_nil t0
  obtain ⟨rfl, rfl⟩ := trodVars_none hV
  have hargs' : args = #[v0] := by
    have : args.toList = [v0] := by rw [hargs, hn1]
    rw [← Array.toArray_toList (xs := args), this]
  subst hargs'
  obtain ⟨fu0, k0⟩ := h0
  obtain ⟨y0, w0, r0⟩ := (opens_slice Try.underlying36 cells41 (by decide) (opens_int Try.underlying41)) _ _ _ _ _ _ _ _ _ k0
  obtain ⟨a0, len0, cap0, hv0⟩ := okWide_slice Try.underlying36 (hval 0 36 v0 rfl rfl)
  subst hv0
  have g0 := arg_one rfl r0
  obtain ⟨N, hN⟩ := plain y0 w0
  refine (calls_of_con (us := [_]) fo_law35_BalanceExtremes (w_law35_BalanceExtremes N y0 true hN) rfl (args_cons g0 (args_nil))).mono fun e W' he => ?_
  obtain ⟨he, hfr⟩ := he
  subst he
  refine ⟨_, rfl, law_post (tb := 4) laidOut ?_ (by kernel_rfl) Try.underlying4 rfl rfl hW0 hfr⟩
  intro t ht
  have := List.all_eq_true.1 readable t ht
  rw [Bool.and_eq_true, decide_eq_true_eq] at this
  exact this

set_option maxRecDepth 100000 in
theorem lifted (os : Os) (started : os.Started) (H : Type) (enc : TypeId × Value → H) :
    ReturnsInHanded {} Try.checked os 7 .any (Rows.balanceExtremesSpec.pre6 enc Try.prog Try.f7 Rows.balanceExtremesRow.domain false) (Rows.balanceExtremesSpec.post enc Try.prog Try.f7 false true false false) := by
  refine returnsInHanded_of_change (C := Try.checked) own started (by kernel_rfl) Try.func7
    (ChangeSpec.witness6 (enc := enc) (C := Try.checked) false ⟨#[], #[.slice none 0 0], []⟩ 12 (by kernel_rfl) (by kernel_rfl) (by kernel_rfl) (by kernel_rfl)) ?_
  intro W base args ds gs before hval hW _ _
  exact contract H enc W base args ds gs before hval hW

theorem balanceExtremes_holds : Rows.BalanceExtremesSaid :=
  OpenClaim.holds_of_wide 7 Try.f7 rfl rfl rfl rfl rfl rfl rfl ⟨rfl, rfl, rfl, rfl, rfl⟩ rfl rfl rfl rfl rfl (by kernel_rfl) Try.func7 (by kernel_rfl)
    (of_decide_eq_true (by kernel_rfl)) (by unfold Func.isWrapper; first | (rw [if_pos (by decide +kernel)]; kernel_rfl) | (rw [if_neg (by decide +kernel)]; exact ⟨rfl, rfl⟩))
    (fun os started H enc _ => lifted os started H enc)
end Go.Proofs.Ytpbloecedgddlaa
