/- The statement OverlayDegreeSaid is proved: for every input the law OverlayDegree returns true, and what it was given reads as before. No condition. -/
import Derived.Test.YtjpeiibeemmdfaaRows
import Derived.Test.YtjpeiibeemmdfaaWA
import Derived.Test.YtjpeiibeemmdfaaLA
import Derived.WalkKit
import Derived.ProofKit
import Derived.OpenShut
import Derived.SizedLaws
set_option linter.unusedSimpArgs false
set_option linter.unusedVariables false
set_option maxRecDepth 100000
namespace Go.Proofs.Ytjpeiibeemmdfaa
open Go Go.Proofs Go.Abs Go.ChangeShapes Go.WideShapes Go.ChangeAt Go.RowKit
open Go.ChangeMaps (open_string shut_string)
theorem cells3 : Try.prog.cellsOf 3 = 1 := by kernel_rfl
theorem byof3 : Try.prog.bytesOf 3 = 8 := by kernel_rfl
theorem cells22 : Try.prog.cellsOf 22 = 1 := by kernel_rfl
theorem plain : (y0 : (List Int)) → (y0.length * 8 ≤ 140737488351232 ∧ ∀ z0 ∈ y0, (Lit.int .i64 z0).wf = true) → ∃ N, law4_OverlayDegree N y0 = some true := fun l _ => ⟨100, plain_OverlayDegree l⟩
theorem own : ownKnob Try.prog.godebug = none := by kernel_rfl
theorem laidOut : laidOutB Try.prog = true := by kernel_rfl
theorem readable : ((Try.f4.params.toList).all fun t => Try.prog.readableRec t && decide (t < Try.prog.types.size)) = true := by kernel_rfl
theorem contract (H : Type) (enc : TypeId × Go.Value → H) (W : World) (base : Nat) (args : Array Go.Value) (ds gs : List (DataW H)) (before : List MemPlace)
    (hval : ∀ (j : Nat) t v, Try.f4.params[j]? = some t → args[j]? = some v → Go.Value.okWide Try.prog W .any base t v)
    (hW : DataW.Whole enc Try.prog Try.f4.params.toList Rows.overlayDegreeSpec.vars false W args.toList ds gs before)
    (hZ : (DataW.weightsEach Try.prog (Try.f4.params.toList ++ Rows.overlayDegreeSpec.plain.varTypes Try.prog) (ds ++ gs)).all (· ≤ reachBytes) = true) :
    Calls Try.prog 4 args W fun e W' => ∃ v, e = .returned v ∧ Rows.overlayDegreeSpec.post enc Try.prog Try.f4 false true false false W args v W' := by
  have hW0 := hW
  obtain ⟨p, q, hA0, hV, rfl, hfz, hnd⟩ := hW
  have hA : DataW.TrodAll enc Try.prog W 0 (fun _ => true) true Try.f4.params.toList args.toList ds p := hA0
  have hZ' := hZ
  rw [Try.params4] at hA hval hZ'
  obtain ⟨v0, vs0, d0, ds0, p0, q0, hargs, rfl, rfl, h0, t0⟩ := trodAll_cons hA
  obtain ⟨hn1, rfl, rfl⟩ := trodAll_nil t0
  obtain ⟨rfl, rfl⟩ := trodVars_none hV
  have hargs' : args = #[v0] := by
    have : args.toList = [v0] := by rw [hargs, hn1]
    rw [← Array.toArray_toList (xs := args), this]
  subst hargs'
  obtain ⟨fu0, k0⟩ := h0
  obtain ⟨y0, w0, r0⟩ := (opens_slice Try.underlying22 cells3 (by decide) byof3 (opens_int Try.underlying3)) _ _ _ _ _ _ _ _ _ k0 (sz_arg hZ' (j := 0) rfl rfl)
  obtain ⟨a0, len0, cap0, hv0⟩ := okWide_slice Try.underlying22 (hval 0 22 v0 rfl rfl)
  subst hv0
  have g0 := arg_one rfl r0
  obtain ⟨N, hN⟩ := plain y0 w0
  refine (calls_of_con (us := [_]) (⟨Try.func4, rfl, by decide, by kernel_rfl⟩ : FunOk Try.prog 4 _ _) (w_law4_OverlayDegree N y0 true hN) rfl (args_cons g0 (args_nil))).mono fun e W' he => ?_
  obtain ⟨he, hfr⟩ := he
  subst he
  refine ⟨_, rfl, law_post (tb := 4) laidOut ?_ (by kernel_rfl) Try.underlying4 rfl rfl hW0 hfr⟩
  intro t ht
  have := List.all_eq_true.1 readable t ht
  rw [Bool.and_eq_true, decide_eq_true_eq] at this
  exact this

set_option maxRecDepth 100000 in
theorem lifted (os : Os) (started : os.Started) (H : Type) (enc : TypeId × Go.Value → H) :
    ReturnsInHanded {} Try.checked os 4 .any (Rows.overlayDegreeSpec.pre6 enc Try.prog Try.f4 Rows.overlayDegreeRow.domain false) (Rows.overlayDegreeSpec.post enc Try.prog Try.f4 false true false false) := by
  refine returnsInHanded_of_change_sized (C := Try.checked) own started (by kernel_rfl) Try.func4
    (ChangeSpec.witness6 (enc := enc) (C := Try.checked) false ⟨#[], #[.slice none 0 0], []⟩ 12 (by kernel_rfl) (by kernel_rfl) (by kernel_rfl) (by kernel_rfl)) ?_
  intro W base args ds gs before hval hW _ hz _
  exact contract H enc W base args ds gs before hval hW hz

theorem overlayDegree_holds : Rows.OverlayDegreeSaid :=
  OpenClaim.holds_of_wide 4 Try.f4 rfl rfl rfl rfl rfl rfl rfl ⟨rfl, rfl, rfl, rfl, rfl⟩ rfl rfl rfl rfl rfl (by kernel_rfl) Try.func4 (by kernel_rfl)
    (of_decide_eq_true (by kernel_rfl)) (by unfold Func.isWrapper; first | (rw [if_pos (by decide +kernel)]; kernel_rfl) | (rw [if_neg (by decide +kernel)]; exact ⟨rfl, rfl⟩))
    (fun os started H enc _ => lifted os started H enc)
end Go.Proofs.Ytjpeiibeemmdfaa
