/- The statement RemindersAllSaid is proved: for every input the law RemindersAll returns true, and what it was given reads as before. No condition. -/
import Derived.Test.YthdbndgfjldhpaaRows
import Derived.Test.YthdbndgfjldhpaaWA
import Derived.Test.YthdbndgfjldhpaaLA
import Derived.WalkKit
import Derived.ProofKit
import Derived.OpenShut
import Derived.SizedLaws
set_option linter.unusedSimpArgs false
set_option linter.unusedVariables false
set_option maxRecDepth 100000
namespace Go.Proofs.Ythdbndgfjldhpaa
open Go Go.Proofs Go.Abs Go.ChangeShapes Go.WideShapes Go.ChangeAt Go.RowKit
open Go.ChangeMaps (open_string shut_string)
theorem cells5 : Try.prog.cellsOf 5 = 1 := by kernel_rfl
theorem byof5 : Try.prog.bytesOf 5 = 1 := by kernel_rfl
def actorgridlaw29_Act.wf (x : actorgridlaw29_Act) : Prop := (Lit.int .u8 x.Kind).wf = true ∧ (Lit.int .u8 x.Name).wf = true ∧ (Lit.int .u8 x.Period).wf = true ∧ (Lit.int .u8 x.N).wf = true ∧ (Lit.int .u8 x.After).wf = true ∧ True
theorem cells32 : Try.prog.cellsOf 32 = 5 := by kernel_rfl
theorem opens_32 : Opens Try.prog 32 actorgridlaw29_Act.row actorgridlaw29_Act.wf := by
  intro H enc w base spare held fuel cs x h hz
  obtain ⟨xs, n, rfl, rfl, hl, hx, hf⟩ := DataW.trod_struct Try.underlying32 h
  rw [cells32] at hl
  have e0 : DataW.trod enc Try.prog w base spare held n 5 ((cs.drop 0).take (Try.prog.cellsOf 5)) = xs[0]? := hf 0 _ rfl
  obtain ⟨x0, h0⟩ : ∃ q, xs[0]? = some q := ⟨xs[0]'(by rw [hx]; decide), List.getElem?_eq_getElem _⟩
  rw [h0, cells5] at e0
  obtain ⟨y0, w0, r0⟩ := (opens_int Try.underlying5) H enc w base spare held n _ x0 e0 (sz_field Try.underlying32 hz (i := 0) rfl (by rw [List.getElem?_map, h0]; rfl))
  have r0' : RowRel w ((cs.drop 0).take 1) ((rowI .u8) y0) := r0
  have e1 : DataW.trod enc Try.prog w base spare held n 5 ((cs.drop 1).take (Try.prog.cellsOf 5)) = xs[1]? := hf 1 _ rfl
  obtain ⟨x1, h1⟩ : ∃ q, xs[1]? = some q := ⟨xs[1]'(by rw [hx]; decide), List.getElem?_eq_getElem _⟩
  rw [h1, cells5] at e1
  obtain ⟨y1, w1, r1⟩ := (opens_int Try.underlying5) H enc w base spare held n _ x1 e1 (sz_field Try.underlying32 hz (i := 1) rfl (by rw [List.getElem?_map, h1]; rfl))
  have r1' : RowRel w ((cs.drop 1).take 1) ((rowI .u8) y1) := r1
  have e2 : DataW.trod enc Try.prog w base spare held n 5 ((cs.drop 2).take (Try.prog.cellsOf 5)) = xs[2]? := hf 2 _ rfl
  obtain ⟨x2, h2⟩ : ∃ q, xs[2]? = some q := ⟨xs[2]'(by rw [hx]; decide), List.getElem?_eq_getElem _⟩
  rw [h2, cells5] at e2
  obtain ⟨y2, w2, r2⟩ := (opens_int Try.underlying5) H enc w base spare held n _ x2 e2 (sz_field Try.underlying32 hz (i := 2) rfl (by rw [List.getElem?_map, h2]; rfl))
  have r2' : RowRel w ((cs.drop 2).take 1) ((rowI .u8) y2) := r2
  have e3 : DataW.trod enc Try.prog w base spare held n 5 ((cs.drop 3).take (Try.prog.cellsOf 5)) = xs[3]? := hf 3 _ rfl
  obtain ⟨x3, h3⟩ : ∃ q, xs[3]? = some q := ⟨xs[3]'(by rw [hx]; decide), List.getElem?_eq_getElem _⟩
  rw [h3, cells5] at e3
  obtain ⟨y3, w3, r3⟩ := (opens_int Try.underlying5) H enc w base spare held n _ x3 e3 (sz_field Try.underlying32 hz (i := 3) rfl (by rw [List.getElem?_map, h3]; rfl))
  have r3' : RowRel w ((cs.drop 3).take 1) ((rowI .u8) y3) := r3
  have e4 : DataW.trod enc Try.prog w base spare held n 5 ((cs.drop 4).take (Try.prog.cellsOf 5)) = xs[4]? := hf 4 _ rfl
  obtain ⟨x4, h4⟩ : ∃ q, xs[4]? = some q := ⟨xs[4]'(by rw [hx]; decide), List.getElem?_eq_getElem _⟩
  rw [h4, cells5] at e4
  obtain ⟨y4, w4, r4⟩ := (opens_int Try.underlying5) H enc w base spare held n _ x4 e4 (sz_field Try.underlying32 hz (i := 4) rfl (by rw [List.getElem?_map, h4]; rfl))
  have r4' : RowRel w ((cs.drop 4).take 1) ((rowI .u8) y4) := r4
  exact ⟨⟨y0, y1, y2, y3, y4⟩, ⟨w0, w1, w2, w3, w4, trivial⟩, rowRel_cut (o := 0) (s := 1) r0' (rowRel_cut (o := 1) (s := 1) r1' (rowRel_cut (o := 2) (s := 1) r2' (rowRel_cut (o := 3) (s := 1) r3' (rowRel_cut (o := 4) (s := 1) r4' (rowRel_end (o := 5) (by omega))))))⟩
theorem byof32 : Try.prog.bytesOf 32 = 5 := by kernel_rfl
theorem cells22 : Try.prog.cellsOf 22 = 1 := by kernel_rfl
theorem cells23 : Try.prog.cellsOf 23 = 1 := by kernel_rfl
theorem cells24 : Try.prog.cellsOf 24 = 1 := by kernel_rfl
theorem plain : (y0 : Int) → (Lit.int .u8 y0).wf = true → (y1 : Int) → (Lit.int .u8 y1).wf = true → (y2 : Int) → (Lit.int .u8 y2).wf = true → (y3 : Int) → (Lit.int .u16 y3).wf = true → (y4 : (List Int)) → (y4.length * 1 ≤ 140737488351232 ∧ ∀ z0 ∈ y4, (Lit.int .u8 z0).wf = true) → (y5 : (List actorgridlaw29_Act)) → (y5.length * 5 ≤ 140737488351232 ∧ ∀ z0 ∈ y5, actorgridlaw29_Act.wf z0) → ∃ N, law29_RemindersAll N y0 y1 y2 y3 y4 y5 = some true := fun a0 h0 a1 h1 a2 h2 a3 h3 a4 h4 ls hw => ⟨4000, plain_RemindersAll a0 a1 a2 a3 a4 ls (by simpa [Lit.wf, IntKind.min, IntKind.max, IntKind.signed, IntKind.bits] using h0) (by simpa [Lit.wf, IntKind.min, IntKind.max, IntKind.signed, IntKind.bits] using h1) (by simpa [Lit.wf, IntKind.min, IntKind.max, IntKind.signed, IntKind.bits] using h2) (by simpa [Lit.wf, IntKind.min, IntKind.max, IntKind.signed, IntKind.bits] using h3) (fun x hx => by simpa [Lit.wf, IntKind.min, IntKind.max, IntKind.signed, IntKind.bits] using h4.2 x hx) (fun x hx => by simpa [U8A, actorgridlaw29_Act.wf, Lit.wf, IntKind.min, IntKind.max, IntKind.signed, IntKind.bits] using hw.2 x hx)⟩
theorem own : ownKnob Try.prog.godebug = none := by kernel_rfl
theorem laidOut : laidOutB Try.prog = true := by kernel_rfl
theorem readable : ((Try.f3.params.toList).all fun t => Try.prog.readableRec t && decide (t < Try.prog.types.size)) = true := by kernel_rfl
theorem contract (H : Type) (enc : TypeId × Go.Value → H) (W : World) (base : Nat) (args : Array Go.Value) (ds gs : List (DataW H)) (before : List MemPlace)
    (hval : ∀ (j : Nat) t v, Try.f3.params[j]? = some t → args[j]? = some v → Go.Value.okWide Try.prog W .any base t v)
    (hW : DataW.Whole enc Try.prog Try.f3.params.toList Rows.remindersAllSpec.vars false W args.toList ds gs before)
    (hZ : (DataW.weightsEach Try.prog (Try.f3.params.toList ++ Rows.remindersAllSpec.plain.varTypes Try.prog) (ds ++ gs)).all (· ≤ reachBytes) = true) :
    Calls Try.prog 3 args W fun e W' => ∃ v, e = .returned v ∧ Rows.remindersAllSpec.post enc Try.prog Try.f3 false true false false W args v W' := by
  have hW0 := hW
  obtain ⟨p, q, hA0, hV, rfl, hfz, hnd⟩ := hW
  have hA : DataW.TrodAll enc Try.prog W 0 (fun _ => true) true Try.f3.params.toList args.toList ds p := hA0
  have hZ' := hZ
  rw [Try.params3] at hA hval hZ'
  obtain ⟨v0, vs0, d0, ds0, p0, q0, hargs, rfl, rfl, h0, t0⟩ := trodAll_cons hA
  obtain ⟨v1, vs1, d1, ds1, p1, q1, hvs1, rfl, rfl, h1, t1⟩ := trodAll_cons t0
  obtain ⟨v2, vs2, d2, ds2, p2, q2, hvs2, rfl, rfl, h2, t2⟩ := trodAll_cons t1
  obtain ⟨v3, vs3, d3, ds3, p3, q3, hvs3, rfl, rfl, h3, t3⟩ := trodAll_cons t2
  obtain ⟨v4, vs4, d4, ds4, p4, q4, hvs4, rfl, rfl, h4, t4⟩ := trodAll_cons t3
  obtain ⟨v5, vs5, d5, ds5, p5, q5, hvs5, rfl, rfl, h5, t5⟩ := trodAll_cons t4
  obtain ⟨hn1, rfl, rfl⟩ := trodAll_nil t5
  obtain ⟨rfl, rfl⟩ := trodVars_none hV
  have hargs' : args = #[v0, v1, v2, v3, v4, v5] := by
    have : args.toList = [v0, v1, v2, v3, v4, v5] := by rw [hargs, hvs1, hvs2, hvs3, hvs4, hvs5, hn1]
    rw [← Array.toArray_toList (xs := args), this]
  subst hargs'
  obtain ⟨fu0, k0⟩ := h0
  obtain ⟨y0, w0, r0⟩ := (opens_int Try.underlying5) _ _ _ _ _ _ _ _ _ k0 (sz_arg hZ' (j := 0) rfl rfl)
  obtain ⟨n0, hv0⟩ := okWide_int Try.underlying5 (hval 0 5 v0 rfl rfl)
  subst hv0
  have g0 := arg_one rfl r0
  obtain ⟨fu1, k1⟩ := h1
  obtain ⟨y1, w1, r1⟩ := (opens_int Try.underlying5) _ _ _ _ _ _ _ _ _ k1 (sz_arg hZ' (j := 1) rfl rfl)
  obtain ⟨n1, hv1⟩ := okWide_int Try.underlying5 (hval 1 5 v1 rfl rfl)
  subst hv1
  have g1 := arg_one rfl r1
  obtain ⟨fu2, k2⟩ := h2
  obtain ⟨y2, w2, r2⟩ := (opens_int Try.underlying5) _ _ _ _ _ _ _ _ _ k2 (sz_arg hZ' (j := 2) rfl rfl)
  obtain ⟨n2, hv2⟩ := okWide_int Try.underlying5 (hval 2 5 v2 rfl rfl)
  subst hv2
  have g2 := arg_one rfl r2
  obtain ⟨fu3, k3⟩ := h3
  obtain ⟨y3, w3, r3⟩ := (opens_int Try.underlying22) _ _ _ _ _ _ _ _ _ k3 (sz_arg hZ' (j := 3) rfl rfl)
  obtain ⟨n3, hv3⟩ := okWide_int Try.underlying22 (hval 3 22 v3 rfl rfl)
  subst hv3
  have g3 := arg_one rfl r3
  obtain ⟨fu4, k4⟩ := h4
  obtain ⟨y4, w4, r4⟩ := (opens_slice Try.underlying23 cells5 (by decide) byof5 (opens_int Try.underlying5)) _ _ _ _ _ _ _ _ _ k4 (sz_arg hZ' (j := 4) rfl rfl)
  obtain ⟨a4, len4, cap4, hv4⟩ := okWide_slice Try.underlying23 (hval 4 23 v4 rfl rfl)
  subst hv4
  have g4 := arg_one rfl r4
  obtain ⟨fu5, k5⟩ := h5
  obtain ⟨y5, w5, r5⟩ := (opens_slice Try.underlying24 cells32 (by decide) byof32 opens_32) _ _ _ _ _ _ _ _ _ k5 (sz_arg hZ' (j := 5) rfl rfl)
  obtain ⟨a5, len5, cap5, hv5⟩ := okWide_slice Try.underlying24 (hval 5 24 v5 rfl rfl)
  subst hv5
  have g5 := arg_one rfl r5
  obtain ⟨N, hN⟩ := plain y0 w0 y1 w1 y2 w2 y3 w3 y4 w4 y5 w5
  refine (calls_of_con (us := [_, _, _, _, _, _]) (⟨Try.func3, rfl, by decide, by kernel_rfl⟩ : FunOk Try.prog 3 _ _) (w_law29_RemindersAll N y0 y1 y2 y3 y4 y5 true hN) rfl (args_cons g0 (args_cons g1 (args_cons g2 (args_cons g3 (args_cons g4 (args_cons g5 (args_nil)))))))).mono fun e W' he => ?_
  obtain ⟨he, hfr⟩ := he
  subst he
  refine ⟨_, rfl, law_post (tb := 4) laidOut ?_ (by kernel_rfl) Try.underlying4 rfl rfl hW0 hfr⟩
  intro t ht
  have := List.all_eq_true.1 readable t ht
  rw [Bool.and_eq_true, decide_eq_true_eq] at this
  exact this

set_option maxRecDepth 100000 in
theorem lifted (os : Os) (started : os.Started) (H : Type) (enc : TypeId × Go.Value → H) :
    ReturnsInHanded {} Try.checked os 3 .any (Rows.remindersAllSpec.pre6 enc Try.prog Try.f3 Rows.remindersAllRow.domain false) (Rows.remindersAllSpec.post enc Try.prog Try.f3 false true false false) := by
  refine returnsInHanded_of_change_sized (C := Try.checked) own started (by kernel_rfl) Try.func3
    (ChangeSpec.witness6 (enc := enc) (C := Try.checked) false ⟨#[], #[.int .u8 0, .int .u8 0, .int .u8 0, .int .u16 0, .slice none 0 0, .slice none 0 0], []⟩ 12 (by kernel_rfl) (by kernel_rfl) (by kernel_rfl) (by kernel_rfl)) ?_
  intro W base args ds gs before hval hW _ hz _
  exact contract H enc W base args ds gs before hval hW hz

theorem remindersAll_holds : Rows.RemindersAllSaid :=
  OpenClaim.holds_of_wide 3 Try.f3 rfl rfl rfl rfl rfl rfl rfl ⟨rfl, rfl, rfl, rfl, rfl⟩ rfl rfl rfl rfl rfl (by kernel_rfl) Try.func3 (by kernel_rfl)
    (of_decide_eq_true (by kernel_rfl)) (by unfold Func.isWrapper; first | (rw [if_pos (by decide +kernel)]; kernel_rfl) | (rw [if_neg (by decide +kernel)]; exact ⟨rfl, rfl⟩))
    (fun os started H enc _ => lifted os started H enc)
end Go.Proofs.Ythdbndgfjldhpaa
