/- The statement CascadeFinishesSaid is proved: for every input the law CascadeFinishes returns true, and what it was given reads as before. No condition. -/
import Derived.Test.YtekgpnhfhkhpaaaRows
import Derived.Test.YtekgpnhfhkhpaaaWB
import Derived.Test.YtekgpnhfhkhpaaaLA
import Derived.WalkKit
import Derived.ProofKit
import Derived.OpenShut
import Derived.SizedLaws
set_option linter.unusedSimpArgs false
set_option linter.unusedVariables false
set_option maxRecDepth 100000
namespace Go.Proofs.Ytekgpnhfhkhpaaa
open Go Go.Proofs Go.Abs Go.ChangeShapes Go.WideShapes Go.ChangeAt Go.RowKit
open Go.ChangeMaps (open_string shut_string)
def actorgridlaw33_Act.wf (x : actorgridlaw33_Act) : Prop := (Lit.int .u8 x.Kind).wf = true ∧ (Lit.int .u8 x.Txn).wf = true ∧ (Lit.int .u8 x.Actor).wf = true ∧ True
theorem cells55 : Try.prog.cellsOf 55 = 3 := by kernel_rfl
theorem cells5 : Try.prog.cellsOf 5 = 1 := by kernel_rfl
theorem opens_55 : Opens Try.prog 55 actorgridlaw33_Act.row actorgridlaw33_Act.wf := by
 intro H enc w base spare held fuel cs x h hz
 obtain ⟨xs, n, rfl, rfl, hl, hx, hf⟩ := DataW.trod_struct Try.underlying55 h
 rw [cells55] at hl
 have e0 : DataW.trod enc Try.prog w base spare held n 5 ((cs.drop 0).take (Try.prog.cellsOf 5)) = xs[0]? := hf 0 _ rfl
 obtain ⟨x0, h0⟩ : ∃ q, xs[0]? = some q := ⟨xs[0]'(by rw [hx]; decide), List.getElem?_eq_getElem _⟩
 rw [h0, cells5] at e0
 obtain ⟨y0, w0, r0⟩ := (opens_int Try.underlying5) H enc w base spare held n _ x0 e0 (sz_field Try.underlying55 hz (i := 0) rfl (by rw [List.getElem?_map, h0]; rfl))
 have r0' : RowRel w ((cs.drop 0).take 1) ((rowI .u8) y0) := r0
 have e1 : DataW.trod enc Try.prog w base spare held n 5 ((cs.drop 1).take (Try.prog.cellsOf 5)) = xs[1]? := hf 1 _ rfl
 obtain ⟨x1, h1⟩ : ∃ q, xs[1]? = some q := ⟨xs[1]'(by rw [hx]; decide), List.getElem?_eq_getElem _⟩
 rw [h1, cells5] at e1
 obtain ⟨y1, w1, r1⟩ := (opens_int Try.underlying5) H enc w base spare held n _ x1 e1 (sz_field Try.underlying55 hz (i := 1) rfl (by rw [List.getElem?_map, h1]; rfl))
 have r1' : RowRel w ((cs.drop 1).take 1) ((rowI .u8) y1) := r1
 have e2 : DataW.trod enc Try.prog w base spare held n 5 ((cs.drop 2).take (Try.prog.cellsOf 5)) = xs[2]? := hf 2 _ rfl
 obtain ⟨x2, h2⟩ : ∃ q, xs[2]? = some q := ⟨xs[2]'(by rw [hx]; decide), List.getElem?_eq_getElem _⟩
 rw [h2, cells5] at e2
 obtain ⟨y2, w2, r2⟩ := (opens_int Try.underlying5) H enc w base spare held n _ x2 e2 (sz_field Try.underlying55 hz (i := 2) rfl (by rw [List.getElem?_map, h2]; rfl))
 have r2' : RowRel w ((cs.drop 2).take 1) ((rowI .u8) y2) := r2
 exact ⟨⟨y0, y1, y2⟩, ⟨w0, w1, w2, trivial⟩, rowRel_cut (o := 0) (s := 1) r0' (rowRel_cut (o := 1) (s := 1) r1' (rowRel_cut (o := 2) (s := 1) r2' (rowRel_end (o := 3) (by omega))))⟩
theorem byof55 : Try.prog.bytesOf 55 = 3 := by kernel_rfl
theorem cells22 : Try.prog.cellsOf 22 = 1 := by kernel_rfl
theorem plain : (y0 : (List actorgridlaw33_Act)) → (y0.length * 3 ≤ 140737488351232 ∧ ∀ z0 ∈ y0, actorgridlaw33_Act.wf z0) → ∃ N, law33_CascadeFinishes N y0 = some true := fun l _ => ⟨200000, plain_CascadeFinishes l⟩
theorem own : ownKnob Try.prog.godebug = none := by kernel_rfl
theorem laidOut : laidOutB Try.prog = true := by kernel_rfl
theorem readable : ((Try.f5.params.toList).all fun t => Try.prog.readableRec t && decide (t < Try.prog.types.size)) = true := by kernel_rfl
theorem contract (H : Type) (enc : TypeId × Go.Value → H) (W : World) (base : Nat) (args : Array Go.Value) (ds gs : List (DataW H)) (before : List MemPlace)
  (hval : ∀ (j : Nat) t v, Try.f5.params[j]? = some t → args[j]? = some v → Go.Value.okWide Try.prog W .any base t v)
  (hW : DataW.Whole enc Try.prog Try.f5.params.toList Rows.cascadeFinishesSpec.vars false W args.toList ds gs before)
  (hZ : (DataW.weightsEach Try.prog (Try.f5.params.toList ++ Rows.cascadeFinishesSpec.plain.varTypes Try.prog) (ds ++ gs)).all (· ≤ reachBytes) = true) :
  Calls Try.prog 5 args W fun e W' => ∃ v, e = .returned v ∧ Rows.cascadeFinishesSpec.post enc Try.prog Try.f5 false true false false W args v W' := by
 have hW0 := hW
 obtain ⟨p, q, hA0, hV, rfl, hfz, hnd⟩ := hW
 have hA : DataW.TrodAll enc Try.prog W 0 (fun _ => true) true Try.f5.params.toList args.toList ds p := hA0
 have hZ' := hZ
 rw [Try.params5] at hA hval hZ'
 obtain ⟨v0, vs0, d0, ds0, p0, q0, hargs, rfl, rfl, h0, t0⟩ := trodAll_cons hA
 obtain ⟨hn1, rfl, rfl⟩ := trodAll_nil t0
 obtain ⟨rfl, rfl⟩ := trodVars_none hV
 have hargs' : args = #[v0] := by
  have : args.toList = [v0] := by rw [hargs, hn1]
  rw [← Array.toArray_toList (xs := args), this]
 subst hargs'
 obtain ⟨fu0, k0⟩ := h0
 obtain ⟨y0, w0, r0⟩ := (opens_slice Try.underlying22 cells55 (by decide) byof55 opens_55) _ _ _ _ _ _ _ _ _ k0 (sz_arg hZ' (j := 0) rfl rfl)
 obtain ⟨a0, len0, cap0, hv0⟩ := okWide_slice Try.underlying22 (hval 0 22 v0 rfl rfl)
 subst hv0
 have g0 := arg_one rfl r0
 obtain ⟨N, hN⟩ := plain y0 w0
 refine (calls_of_con (us := [_]) (⟨Try.func5, rfl, by decide, by kernel_rfl⟩ : FunOk Try.prog 5 _ _) (w_law33_CascadeFinishes N y0 true hN) rfl (args_cons g0 (args_nil))).mono fun e W' he => ?_
 obtain ⟨he, hfr⟩ := he
 subst he
 refine ⟨_, rfl, law_post (tb := 4) laidOut ?_ (by kernel_rfl) Try.underlying4 rfl rfl hW0 hfr⟩
 intro t ht
 have := List.all_eq_true.1 readable t ht
 rw [Bool.and_eq_true, decide_eq_true_eq] at this
 exact this

set_option maxRecDepth 100000 in
theorem lifted (os : Os) (started : os.Started) (H : Type) (enc : TypeId × Go.Value → H) :
  ReturnsInHanded {} Try.checked os 5 .any (Rows.cascadeFinishesSpec.pre6 enc Try.prog Try.f5 Rows.cascadeFinishesRow.domain false) (Rows.cascadeFinishesSpec.post enc Try.prog Try.f5 false true false false) := by
 refine returnsInHanded_of_change_sized (C := Try.checked) own started (by kernel_rfl) Try.func5
  (ChangeSpec.witness6 (enc := enc) (C := Try.checked) false ⟨#[], #[.slice none 0 0], []⟩ 12 (by kernel_rfl) (by kernel_rfl) (by kernel_rfl) (by kernel_rfl)) ?_
 intro W base args ds gs before hval hW _ hz _
 exact contract H enc W base args ds gs before hval hW hz

theorem cascadeFinishes_holds : Rows.CascadeFinishesSaid :=
 OpenClaim.holds_of_wide 5 Try.f5 rfl rfl rfl rfl rfl rfl rfl ⟨rfl, rfl, rfl, rfl, rfl⟩ rfl rfl rfl rfl rfl (by kernel_rfl) Try.func5 (by kernel_rfl)
  (of_decide_eq_true (by kernel_rfl)) (by unfold Func.isWrapper; first | (rw [if_pos (by decide +kernel)]; kernel_rfl) | (rw [if_neg (by decide +kernel)]; exact ⟨rfl, rfl⟩))
  (fun os started H enc _ => lifted os started H enc)
end Go.Proofs.Ytekgpnhfhkhpaaa
