/- The statement BalanceAnySaid is proved: for every input the law BalanceAny returns true, and what it was given reads as before. No condition. -/
import Derived.Test.YtpbloecedgddlaaRows
import Derived.Test.YtpbloecedgddlaaWB
import Derived.Test.YtpbloecedgddlaaM
import Derived.Test.YtpbloecedgddlaaL35a
import Derived.Test.YtpbloecedgddlaaL35b
import Derived.Test.YtpbloecedgddlaaL35c
import Derived.Test.YtpbloecedgddlaaL35d
import Derived.WalkKit
import Derived.ProofKit
import Derived.OpenShut
set_option linter.unusedSimpArgs false
set_option linter.unusedVariables false
set_option maxRecDepth 100000
namespace Go.Proofs.Ytpbloecedgddlaa
open Go Go.Proofs Go.Abs Go.ChangeShapes Go.WideShapes Go.ChangeAt Go.RowKit
open Go.ChangeMaps (open_string shut_string)
def Load.wf (x : Load) : Prop := (Lit.int .i64 x.Member).wf = true ∧ (Lit.int .i64 x.Actors).wf = true ∧ True
theorem cells40 : Try.prog.cellsOf 40 = 2 := by kernel_rfl
theorem cells3 : Try.prog.cellsOf 3 = 1 := by kernel_rfl
theorem opens_40 : Opens Try.prog 40 Load.row Load.wf := by
  intro H enc w base spare held fuel cs x h
  obtain ⟨xs, n, rfl, _, hl, hx, hf⟩ := DataW.trod_struct Try.underlying40 h
  rw [cells40] at hl
  have e0 : DataW.trod enc Try.prog w base spare held n 3 ((cs.drop 0).take (Try.prog.cellsOf 3)) = xs[0]? := hf 0 _ rfl
  obtain ⟨x0, h0⟩ : ∃ q, xs[0]? = some q := ⟨xs[0]'(by rw [hx]; decide), List.getElem?_eq_getElem _⟩
  rw [h0, cells3] at e0
  obtain ⟨y0, w0, r0⟩ := (opens_int Try.underlying3) H enc w base spare held n _ x0 e0
  have r0' : RowRel w ((cs.drop 0).take 1) ((rowI .i64) y0) := r0
  have e1 : DataW.trod enc Try.prog w base spare held n 3 ((cs.drop 1).take (Try.prog.cellsOf 3)) = xs[1]? := hf 1 _ rfl
  obtain ⟨x1, h1⟩ : ∃ q, xs[1]? = some q := ⟨xs[1]'(by rw [hx]; decide), List.getElem?_eq_getElem _⟩
  rw [h1, cells3] at e1
  obtain ⟨y1, w1, r1⟩ := (opens_int Try.underlying3) H enc w base spare held n _ x1 e1
  have r1' : RowRel w ((cs.drop 1).take 1) ((rowI .i64) y1) := r1
  exact ⟨⟨y0, y1⟩, ⟨w0, w1, trivial⟩, rowRel_cut (o := 0) (s := 1) r0' (rowRel_cut (o := 1) (s := 1) r1' (rowRel_end (o := 2) (by omega)))⟩
def LoadMove.wf (x : LoadMove) : Prop := (Lit.int .i64 x.From).wf = true ∧ (Lit.int .i64 x.To).wf = true ∧ True
theorem cells43 : Try.prog.cellsOf 43 = 2 := by kernel_rfl
theorem opens_43 : Opens Try.prog 43 LoadMove.row LoadMove.wf := by
  intro H enc w base spare held fuel cs x h
  obtain ⟨xs, n, rfl, _, hl, hx, hf⟩ := DataW.trod_struct Try.underlying43 h
  rw [cells43] at hl
  have e0 : DataW.trod enc Try.prog w base spare held n 3 ((cs.drop 0).take (Try.prog.cellsOf 3)) = xs[0]? := hf 0 _ rfl
  obtain ⟨x0, h0⟩ : ∃ q, xs[0]? = some q := ⟨xs[0]'(by rw [hx]; decide), List.getElem?_eq_getElem _⟩
  rw [h0, cells3] at e0
  obtain ⟨y0, w0, r0⟩ := (opens_int Try.underlying3) H enc w base spare held n _ x0 e0
  have r0' : RowRel w ((cs.drop 0).take 1) ((rowI .i64) y0) := r0
  have e1 : DataW.trod enc Try.prog w base spare held n 3 ((cs.drop 1).take (Try.prog.cellsOf 3)) = xs[1]? := hf 1 _ rfl
  obtain ⟨x1, h1⟩ : ∃ q, xs[1]? = some q := ⟨xs[1]'(by rw [hx]; decide), List.getElem?_eq_getElem _⟩
  rw [h1, cells3] at e1
  obtain ⟨y1, w1, r1⟩ := (opens_int Try.underlying3) H enc w base spare held n _ x1 e1
  have r1' : RowRel w ((cs.drop 1).take 1) ((rowI .i64) y1) := r1
  exact ⟨⟨y0, y1⟩, ⟨w0, w1, trivial⟩, rowRel_cut (o := 0) (s := 1) r0' (rowRel_cut (o := 1) (s := 1) r1' (rowRel_end (o := 2) (by omega)))⟩
theorem cells22 : Try.prog.cellsOf 22 = 1 := by kernel_rfl
theorem cells23 : Try.prog.cellsOf 23 = 1 := by kernel_rfl
theorem plain : (y0 : (List Load)) → (y0.length ≤ maxLen ∧ ∀ z0 ∈ y0, Load.wf z0) → (y1 : (List LoadMove)) → (y1.length ≤ maxLen ∧ ∀ z0 ∈ y1, LoadMove.wf z0) → ∃ N, law35_BalanceAny N y0 y1 = some true := fun l _ ms _ => ⟨16000001, plain_BalanceAny l ms⟩
theorem own : ownKnob Try.prog.godebug = none := by kernel_rfl
theorem laidOut : laidOutB Try.prog = true := by kernel_rfl
theorem readable : ((Try.f3.params.toList).all fun t => Try.prog.readableRec t && decide (t < Try.prog.types.size)) = true := by kernel_rfl
theorem contract (H : Type) (enc : TypeId × Value → H) (W : World) (base : Nat) (args : Array Value) (ds gs : List (DataW H)) (before : List MemPlace)
    (hval : ∀ (j : Nat) t v, Try.f3.params[j]? = some t → args[j]? = some v → Value.okWide Try.prog W .any base t v)
    (hW : DataW.Whole enc Try.prog Try.f3.params.toList Rows.balanceAnySpec.vars false W args.toList ds gs before) :
    Calls Try.prog 3 args W fun e W' => ∃ v, e = .returned v ∧ Rows.balanceAnySpec.post enc Try.prog Try.f3 false true false false W args v W' := by
  have hW0 := hW
  obtain ⟨p, q, hA0, hV, rfl, hfz, hnd⟩ := hW
  have hA : DataW.TrodAll enc Try.prog W 0 (fun _ => true) true Try.f3.params.toList args.toList ds p := hA0
  rw [Try.params3] at hA hval
  obtain ⟨v0, vs0, d0, ds0, p0, q0, hargs, rfl, rfl, h0, t0⟩ := trodAll_cons hA
  obtain ⟨v1, vs1, d1, ds1, p1, q1, hvs1, rfl, rfl, h1, t1⟩ := trodAll_cons t0
  obtain ⟨hn1, rfl, rfl⟩ := trodAll_nil t1
  obtain ⟨rfl, rfl⟩ := trodVars_none hV
  have hargs' : args = #[v0, v1] := by
    have : args.toList = [v0, v1] := by rw [hargs, hvs1, hn1]
    rw [← Array.toArray_toList (xs := args), this]
  subst hargs'
  obtain ⟨fu0, k0⟩ := h0
  obtain ⟨y0, w0, r0⟩ := (opens_slice Try.underlying22 cells40 (by decide) opens_40) _ _ _ _ _ _ _ _ _ k0
  obtain ⟨a0, len0, cap0, hv0⟩ := okWide_slice Try.underlying22 (hval 0 22 v0 rfl rfl)
  subst hv0
  have g0 := arg_one rfl r0
  obtain ⟨fu1, k1⟩ := h1
  obtain ⟨y1, w1, r1⟩ := (opens_slice Try.underlying23 cells43 (by decide) opens_43) _ _ _ _ _ _ _ _ _ k1
  obtain ⟨a1, len1, cap1, hv1⟩ := okWide_slice Try.underlying23 (hval 1 23 v1 rfl rfl)
  subst hv1
  have g1 := arg_one rfl r1
  obtain ⟨N, hN⟩ := plain y0 w0 y1 w1
  refine (calls_of_con (us := [_, _]) fo_law35_BalanceAny (w_law35_BalanceAny N y0 y1 true hN) rfl (args_cons g0 (args_cons g1 (args_nil)))).mono fun e W' he => ?_
  obtain ⟨he, hfr⟩ := he
  subst he
  refine ⟨_, rfl, law_post (tb := 4) laidOut ?_ (by kernel_rfl) Try.underlying4 rfl rfl hW0 hfr⟩
  intro t ht
  have := List.all_eq_true.1 readable t ht
  rw [Bool.and_eq_true, decide_eq_true_eq] at this
  exact this

set_option maxRecDepth 100000 in
theorem lifted (os : Os) (started : os.Started) (H : Type) (enc : TypeId × Value → H) :
    ReturnsInHanded {} Try.checked os 3 .any (Rows.balanceAnySpec.pre6 enc Try.prog Try.f3 Rows.balanceAnyRow.domain false) (Rows.balanceAnySpec.post enc Try.prog Try.f3 false true false false) := by
  refine returnsInHanded_of_change (C := Try.checked) own started (by kernel_rfl) Try.func3
    (ChangeSpec.witness6 (enc := enc) (C := Try.checked) false ⟨#[], #[.slice none 0 0, .slice none 0 0], []⟩ 12 (by kernel_rfl) (by kernel_rfl) (by kernel_rfl) (by kernel_rfl)) ?_
  intro W base args ds gs before hval hW _ _
  exact contract H enc W base args ds gs before hval hW

theorem balanceAny_holds : Rows.BalanceAnySaid :=
  OpenClaim.holds_of_wide 3 Try.f3 rfl rfl rfl rfl rfl rfl rfl ⟨rfl, rfl, rfl, rfl, rfl⟩ rfl rfl rfl rfl rfl (by kernel_rfl) Try.func3 (by kernel_rfl)
    (of_decide_eq_true (by kernel_rfl)) (by unfold Func.isWrapper; first | (rw [if_pos (by decide +kernel)]; kernel_rfl) | (rw [if_neg (by decide +kernel)]; exact ⟨rfl, rfl⟩))
    (fun os started H enc _ => lifted os started H enc)
end Go.Proofs.Ytpbloecedgddlaa
