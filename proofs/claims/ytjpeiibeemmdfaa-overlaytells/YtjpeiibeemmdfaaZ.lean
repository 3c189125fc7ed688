/- The statement OverlayTellsSaid is proved: for every input the law OverlayTells returns true, and what it was given reads as before. No condition. -/
import Derived.Test.YtjpeiibeemmdfaaRows
import Derived.Test.YtjpeiibeemmdfaaWA
import Derived.Test.YtjpeiibeemmdfaaLA
import Derived.WalkKit
import Derived.ProofKit
import Derived.OpenShut
import Derived.SizedLaws
set_option linter.unusedSimpArgs false
set_option linter.unusedVariables false
set_option maxRecDepth 100000
namespace Go.Proofs.Ytjpeiibeemmdfaa
open Go Go.Proofs Go.Abs Go.ChangeShapes Go.WideShapes Go.ChangeAt Go.RowKit
open Go.ChangeMaps (open_string shut_string)
theorem cells3 : Try.prog.cellsOf 3 = 1 := by kernel_rfl
theorem byof3 : Try.prog.bytesOf 3 = 8 := by kernel_rfl
theorem cells22 : Try.prog.cellsOf 22 = 1 := by kernel_rfl
theorem plain : (y0 : (List Int)) → (y0.length * 8 ≤ 140737488351232 ∧ ∀ z0 ∈ y0, (Lit.int .i64 z0).wf = true) → (y1 : Int) → (Lit.int .i64 y1).wf = true → (y2 : Int) → (Lit.int .i64 y2).wf = true → (y3 : Int) → (Lit.int .i64 y3).wf = true → ∃ N, law4_OverlayTells N y0 y1 y2 y3 = some true := fun l _ a1 _ a2 _ a3 _ => ⟨2000, plain_OverlayTells l a1 a2 a3⟩
theorem own : ownKnob Try.prog.godebug = none := by kernel_rfl
theorem laidOut : laidOutB Try.prog = true := by kernel_rfl
theorem readable : ((Try.f7.params.toList).all fun t => Try.prog.readableRec t && decide (t < Try.prog.types.size)) = true := by kernel_rfl
theorem contract (H : Type) (enc : TypeId × Go.Value → H) (W : World) (base : Nat) (args : Array Go.Value) (ds gs : List (DataW H)) (before : List MemPlace)
    (hval : ∀ (j : Nat) t v, Try.f7.params[j]? = some t → args[j]? = some v → Go.Value.okWide Try.prog W .any base t v)
    (hW : DataW.Whole enc Try.prog Try.f7.params.toList Rows.overlayTellsSpec.vars false W args.toList ds gs before)
    (hZ : (DataW.weightsEach Try.prog (Try.f7.params.toList ++ Rows.overlayTellsSpec.plain.varTypes Try.prog) (ds ++ gs)).all (· ≤ reachBytes) = true) :
    Calls Try.prog 7 args W fun e W' => ∃ v, e = .returned v ∧ Rows.overlayTellsSpec.post enc Try.prog Try.f7 false true false false W args v W' := by
  have hW0 := hW
  obtain ⟨p, q, hA0, hV, rfl, hfz, hnd⟩ := hW
  have hA : DataW.TrodAll enc Try.prog W 0 (fun _ => true) true Try.f7.params.toList args.toList ds p := hA0
  have hZ' := hZ
  rw [Try.params7] at hA hval hZ'
  obtain ⟨v0, vs0, d0, ds0, p0, q0, hargs, rfl, rfl, h0, t0⟩ := trodAll_cons hA
  obtain ⟨v1, vs1, d1, ds1, p1, q1, hvs1, rfl, rfl, h1, t1⟩ := trodAll_cons t0
  obtain ⟨v2, vs2, d2, ds2, p2, q2, hvs2, rfl, rfl, h2, t2⟩ := trodAll_cons t1
  obtain ⟨v3, vs3, d3, ds3, p3, q3, hvs3, rfl, rfl, h3, t3⟩ := trodAll_cons t2
  obtain ⟨hn1, rfl, rfl⟩ := trodAll_nil t3
  obtain ⟨rfl, rfl⟩ := trodVars_none hV
  have hargs' : args = #[v0, v1, v2, v3] := by
    have : args.toList = [v0, v1, v2, v3] := by rw [hargs, hvs1, hvs2, hvs3, hn1]
    rw [← Array.toArray_toList (xs := args), this]
  subst hargs'
  obtain ⟨fu0, k0⟩ := h0
  obtain ⟨y0, w0, r0⟩ := (opens_slice Try.underlying22 cells3 (by decide) byof3 (opens_int Try.underlying3)) _ _ _ _ _ _ _ _ _ k0 (sz_arg hZ' (j := 0) rfl rfl)
  obtain ⟨a0, len0, cap0, hv0⟩ := okWide_slice Try.underlying22 (hval 0 22 v0 rfl rfl)
  subst hv0
  have g0 := arg_one rfl r0
  obtain ⟨fu1, k1⟩ := h1
  obtain ⟨y1, w1, r1⟩ := (opens_int Try.underlying3) _ _ _ _ _ _ _ _ _ k1 (sz_arg hZ' (j := 1) rfl rfl)
  obtain ⟨n1, hv1⟩ := okWide_int Try.underlying3 (hval 1 3 v1 rfl rfl)
  subst hv1
  have g1 := arg_one rfl r1
  obtain ⟨fu2, k2⟩ := h2
  obtain ⟨y2, w2, r2⟩ := (opens_int Try.underlying3) _ _ _ _ _ _ _ _ _ k2 (sz_arg hZ' (j := 2) rfl rfl)
  obtain ⟨n2, hv2⟩ := okWide_int Try.underlying3 (hval 2 3 v2 rfl rfl)
  subst hv2
  have g2 := arg_one rfl r2
  obtain ⟨fu3, k3⟩ := h3
  obtain ⟨y3, w3, r3⟩ := (opens_int Try.underlying3) _ _ _ _ _ _ _ _ _ k3 (sz_arg hZ' (j := 3) rfl rfl)
  obtain ⟨n3, hv3⟩ := okWide_int Try.underlying3 (hval 3 3 v3 rfl rfl)
  subst hv3
  have g3 := arg_one rfl r3
  obtain ⟨N, hN⟩ := plain y0 w0 y1 w1 y2 w2 y3 w3
  refine (calls_of_con (us := [_, _, _, _]) (⟨Try.func7, rfl, by decide, by kernel_rfl⟩ : FunOk Try.prog 7 _ _) (w_law4_OverlayTells N y0 y1 y2 y3 true hN) rfl (args_cons g0 (args_cons g1 (args_cons g2 (args_cons g3 (args_nil)))))).mono fun e W' he => ?_
  obtain ⟨he, hfr⟩ := he
  subst he
  refine ⟨_, rfl, law_post (tb := 4) laidOut ?_ (by kernel_rfl) Try.underlying4 rfl rfl hW0 hfr⟩
  intro t ht
  have := List.all_eq_true.1 readable t ht
  rw [Bool.and_eq_true, decide_eq_true_eq] at this
  exact this

set_option maxRecDepth 100000 in
theorem lifted (os : Os) (started : os.Started) (H : Type) (enc : TypeId × Go.Value → H) :
    ReturnsInHanded {} Try.checked os 7 .any (Rows.overlayTellsSpec.pre6 enc Try.prog Try.f7 Rows.overlayTellsRow.domain false) (Rows.overlayTellsSpec.post enc Try.prog Try.f7 false true false false) := by
  refine returnsInHanded_of_change_sized (C := Try.checked) own started (by kernel_rfl) Try.func7
    (ChangeSpec.witness6 (enc := enc) (C := Try.checked) false ⟨#[], #[.slice none 0 0, .int .i64 0, .int .i64 0, .int .i64 0], []⟩ 12 (by kernel_rfl) (by kernel_rfl) (by kernel_rfl) (by kernel_rfl)) ?_
  intro W base args ds gs before hval hW _ hz _
  exact contract H enc W base args ds gs before hval hW hz

theorem overlayTells_holds : Rows.OverlayTellsSaid :=
  OpenClaim.holds_of_wide 7 Try.f7 rfl rfl rfl rfl rfl rfl rfl ⟨rfl, rfl, rfl, rfl, rfl⟩ rfl rfl rfl rfl rfl (by kernel_rfl) Try.func7 (by kernel_rfl)
    (of_decide_eq_true (by kernel_rfl)) (by unfold Func.isWrapper; first | (rw [if_pos (by decide +kernel)]; kernel_rfl) | (rw [if_neg (by decide +kernel)]; exact ⟨rfl, rfl⟩))
    (fun os started H enc _ => lifted os started H enc)
end Go.Proofs.Ytjpeiibeemmdfaa
