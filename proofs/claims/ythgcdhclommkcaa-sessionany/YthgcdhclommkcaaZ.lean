/- The statement SessionAnySaid is proved: for every input the law SessionAny returns true, and what it was given reads as before. No condition. -/
import Derived.Test.YthgcdhclommkcaaRows
import Derived.Test.YthgcdhclommkcaaWB
import Derived.Test.YthgcdhclommkcaaLA
import Derived.WalkKit
import Derived.ProofKit
import Derived.OpenShut
import Derived.SizedLaws
set_option linter.unusedSimpArgs false
set_option linter.unusedVariables false
set_option maxRecDepth 100000
namespace Go.Proofs.Ythgcdhclommkcaa
open Go Go.Proofs Go.Abs Go.ChangeShapes Go.WideShapes Go.ChangeAt Go.RowKit
open Go.ChangeMaps (open_string shut_string)
def Ref.wf (x : Ref) : Prop := x.Type_.size ≤ 140737488351232 ∧ x.Key.size ≤ 140737488351232 ∧ True
theorem cells68 : Try.prog.cellsOf 68 = 2 := by kernel_rfl
theorem cells9 : Try.prog.cellsOf 9 = 1 := by kernel_rfl
theorem opens_68 : Opens Try.prog 68 Ref.row Ref.wf := by
  intro H enc w base spare held fuel cs x h hz
  obtain ⟨xs, n, rfl, rfl, hl, hx, hf⟩ := DataW.trod_struct Try.underlying68 h
  rw [cells68] at hl
  have e0 : DataW.trod enc Try.prog w base spare held n 9 ((cs.drop 0).take (Try.prog.cellsOf 9)) = xs[0]? := hf 0 _ rfl
  obtain ⟨x0, h0⟩ : ∃ q, xs[0]? = some q := ⟨xs[0]'(by rw [hx]; decide), List.getElem?_eq_getElem _⟩
  rw [h0, cells9] at e0
  obtain ⟨y0, w0, r0⟩ := (opens_string Try.underlying9) H enc w base spare held n _ x0 e0 (sz_field Try.underlying68 hz (i := 0) rfl (by rw [List.getElem?_map, h0]; rfl))
  have r0' : RowRel w ((cs.drop 0).take 1) (rowS y0) := r0
  have e1 : DataW.trod enc Try.prog w base spare held n 9 ((cs.drop 1).take (Try.prog.cellsOf 9)) = xs[1]? := hf 1 _ rfl
  obtain ⟨x1, h1⟩ : ∃ q, xs[1]? = some q := ⟨xs[1]'(by rw [hx]; decide), List.getElem?_eq_getElem _⟩
  rw [h1, cells9] at e1
  obtain ⟨y1, w1, r1⟩ := (opens_string Try.underlying9) H enc w base spare held n _ x1 e1 (sz_field Try.underlying68 hz (i := 1) rfl (by rw [List.getElem?_map, h1]; rfl))
  have r1' : RowRel w ((cs.drop 1).take 1) (rowS y1) := r1
  exact ⟨⟨y0, y1⟩, ⟨w0, w1, trivial⟩, rowRel_cut (o := 0) (s := 1) r0' (rowRel_cut (o := 1) (s := 1) r1' (rowRel_end (o := 2) (by omega)))⟩
def Value.wf (x : Value) : Prop := (Lit.int .i64 x.Kind).wf = true ∧ (Lit.int .i64 x.N).wf = true ∧ x.S.size ≤ 140737488351232 ∧ (x.I.length * 8 ≤ 140737488351232 ∧ ∀ z0 ∈ x.I, (Lit.int .i64 z0).wf = true) ∧ (x.L.length * 16 ≤ 140737488351232 ∧ ∀ z0 ∈ x.L, z0.size ≤ 140737488351232) ∧ True
theorem cells30 : Try.prog.cellsOf 30 = 5 := by kernel_rfl
theorem cells3 : Try.prog.cellsOf 3 = 1 := by kernel_rfl
theorem cells26 : Try.prog.cellsOf 26 = 1 := by kernel_rfl
theorem byof3 : Try.prog.bytesOf 3 = 8 := by kernel_rfl
theorem cells28 : Try.prog.cellsOf 28 = 1 := by kernel_rfl
theorem byof9 : Try.prog.bytesOf 9 = 16 := by kernel_rfl
theorem opens_30 : Opens Try.prog 30 Value.row Value.wf := by
  intro H enc w base spare held fuel cs x h hz
  obtain ⟨xs, n, rfl, rfl, hl, hx, hf⟩ := DataW.trod_struct Try.underlying30 h
  rw [cells30] at hl
  have e0 : DataW.trod enc Try.prog w base spare held n 3 ((cs.drop 0).take (Try.prog.cellsOf 3)) = xs[0]? := hf 0 _ rfl
  obtain ⟨x0, h0⟩ : ∃ q, xs[0]? = some q := ⟨xs[0]'(by rw [hx]; decide), List.getElem?_eq_getElem _⟩
  rw [h0, cells3] at e0
  obtain ⟨y0, w0, r0⟩ := (opens_int Try.underlying3) H enc w base spare held n _ x0 e0 (sz_field Try.underlying30 hz (i := 0) rfl (by rw [List.getElem?_map, h0]; rfl))
  have r0' : RowRel w ((cs.drop 0).take 1) ((rowI .i64) y0) := r0
  have e1 : DataW.trod enc Try.prog w base spare held n 3 ((cs.drop 1).take (Try.prog.cellsOf 3)) = xs[1]? := hf 1 _ rfl
  obtain ⟨x1, h1⟩ : ∃ q, xs[1]? = some q := ⟨xs[1]'(by rw [hx]; decide), List.getElem?_eq_getElem _⟩
  rw [h1, cells3] at e1
  obtain ⟨y1, w1, r1⟩ := (opens_int Try.underlying3) H enc w base spare held n _ x1 e1 (sz_field Try.underlying30 hz (i := 1) rfl (by rw [List.getElem?_map, h1]; rfl))
  have r1' : RowRel w ((cs.drop 1).take 1) ((rowI .i64) y1) := r1
  have e2 : DataW.trod enc Try.prog w base spare held n 9 ((cs.drop 2).take (Try.prog.cellsOf 9)) = xs[2]? := hf 2 _ rfl
  obtain ⟨x2, h2⟩ : ∃ q, xs[2]? = some q := ⟨xs[2]'(by rw [hx]; decide), List.getElem?_eq_getElem _⟩
  rw [h2, cells9] at e2
  obtain ⟨y2, w2, r2⟩ := (opens_string Try.underlying9) H enc w base spare held n _ x2 e2 (sz_field Try.underlying30 hz (i := 2) rfl (by rw [List.getElem?_map, h2]; rfl))
  have r2' : RowRel w ((cs.drop 2).take 1) (rowS y2) := r2
  have e3 : DataW.trod enc Try.prog w base spare held n 26 ((cs.drop 3).take (Try.prog.cellsOf 26)) = xs[3]? := hf 3 _ rfl
  obtain ⟨x3, h3⟩ : ∃ q, xs[3]? = some q := ⟨xs[3]'(by rw [hx]; decide), List.getElem?_eq_getElem _⟩
  rw [h3, cells26] at e3
  obtain ⟨y3, w3, r3⟩ := (opens_slice Try.underlying26 cells3 (by decide) byof3 (opens_int Try.underlying3)) H enc w base spare held n _ x3 e3 (sz_field Try.underlying30 hz (i := 3) rfl (by rw [List.getElem?_map, h3]; rfl))
  have r3' : RowRel w ((cs.drop 3).take 1) ((rowL 1 (rowI .i64)) y3) := r3
  have e4 : DataW.trod enc Try.prog w base spare held n 28 ((cs.drop 4).take (Try.prog.cellsOf 28)) = xs[4]? := hf 4 _ rfl
  obtain ⟨x4, h4⟩ : ∃ q, xs[4]? = some q := ⟨xs[4]'(by rw [hx]; decide), List.getElem?_eq_getElem _⟩
  rw [h4, cells28] at e4
  obtain ⟨y4, w4, r4⟩ := (opens_slice Try.underlying28 cells9 (by decide) byof9 (opens_string Try.underlying9)) H enc w base spare held n _ x4 e4 (sz_field Try.underlying30 hz (i := 4) rfl (by rw [List.getElem?_map, h4]; rfl))
  have r4' : RowRel w ((cs.drop 4).take 1) ((rowL 1 rowS) y4) := r4
  exact ⟨⟨y0, y1, y2, y3, y4⟩, ⟨w0, w1, w2, w3, w4, trivial⟩, rowRel_cut (o := 0) (s := 1) r0' (rowRel_cut (o := 1) (s := 1) r1' (rowRel_cut (o := 2) (s := 1) r2' (rowRel_cut (o := 3) (s := 1) r3' (rowRel_cut (o := 4) (s := 1) r4' (rowRel_end (o := 5) (by omega))))))⟩
def ActorCall.wf (x : ActorCall) : Prop := Ref.wf x.Target ∧ x.Method.size ≤ 140737488351232 ∧ (x.Args.length * 80 ≤ 140737488351232 ∧ ∀ z0 ∈ x.Args, Value.wf z0) ∧ True
theorem cells71 : Try.prog.cellsOf 71 = 4 := by kernel_rfl
theorem cells69 : Try.prog.cellsOf 69 = 1 := by kernel_rfl
theorem byof30 : Try.prog.bytesOf 30 = 80 := by kernel_rfl
theorem opens_71 : Opens Try.prog 71 ActorCall.row ActorCall.wf := by
  intro H enc w base spare held fuel cs x h hz
  obtain ⟨xs, n, rfl, rfl, hl, hx, hf⟩ := DataW.trod_struct Try.underlying71 h
  rw [cells71] at hl
  have e0 : DataW.trod enc Try.prog w base spare held n 68 ((cs.drop 0).take (Try.prog.cellsOf 68)) = xs[0]? := hf 0 _ rfl
  obtain ⟨x0, h0⟩ : ∃ q, xs[0]? = some q := ⟨xs[0]'(by rw [hx]; decide), List.getElem?_eq_getElem _⟩
  rw [h0, cells68] at e0
  obtain ⟨y0, w0, r0⟩ := opens_68 H enc w base spare held n _ x0 e0 (sz_field Try.underlying71 hz (i := 0) rfl (by rw [List.getElem?_map, h0]; rfl))
  have r0' : RowRel w ((cs.drop 0).take 2) (Ref.row y0) := r0
  have e1 : DataW.trod enc Try.prog w base spare held n 9 ((cs.drop 2).take (Try.prog.cellsOf 9)) = xs[1]? := hf 1 _ rfl
  obtain ⟨x1, h1⟩ : ∃ q, xs[1]? = some q := ⟨xs[1]'(by rw [hx]; decide), List.getElem?_eq_getElem _⟩
  rw [h1, cells9] at e1
  obtain ⟨y1, w1, r1⟩ := (opens_string Try.underlying9) H enc w base spare held n _ x1 e1 (sz_field Try.underlying71 hz (i := 1) rfl (by rw [List.getElem?_map, h1]; rfl))
  have r1' : RowRel w ((cs.drop 2).take 1) (rowS y1) := r1
  have e2 : DataW.trod enc Try.prog w base spare held n 69 ((cs.drop 3).take (Try.prog.cellsOf 69)) = xs[2]? := hf 2 _ rfl
  obtain ⟨x2, h2⟩ : ∃ q, xs[2]? = some q := ⟨xs[2]'(by rw [hx]; decide), List.getElem?_eq_getElem _⟩
  rw [h2, cells69] at e2
  obtain ⟨y2, w2, r2⟩ := (opens_slice Try.underlying69 cells30 (by decide) byof30 opens_30) H enc w base spare held n _ x2 e2 (sz_field Try.underlying71 hz (i := 2) rfl (by rw [List.getElem?_map, h2]; rfl))
  have r2' : RowRel w ((cs.drop 3).take 1) ((rowL 5 Value.row) y2) := r2
  exact ⟨⟨y0, y1, y2⟩, ⟨w0, w1, w2, trivial⟩, rowRel_cut (o := 0) (s := 2) r0' (rowRel_cut (o := 2) (s := 1) r1' (rowRel_cut (o := 3) (s := 1) r2' (rowRel_end (o := 4) (by omega))))⟩
def Submission.wf (x : Submission) : Prop := x.Client.size ≤ 140737488351232 ∧ (Lit.int .i64 x.Seq).wf = true ∧ (Lit.int .i64 x.Acked).wf = true ∧ True ∧ (x.Calls.length * 72 ≤ 140737488351232 ∧ ∀ z0 ∈ x.Calls, ActorCall.wf z0) ∧ True
theorem cells34 : Try.prog.cellsOf 34 = 5 := by kernel_rfl
theorem cells4 : Try.prog.cellsOf 4 = 1 := by kernel_rfl
theorem cells25 : Try.prog.cellsOf 25 = 1 := by kernel_rfl
theorem byof71 : Try.prog.bytesOf 71 = 72 := by kernel_rfl
theorem opens_34 : Opens Try.prog 34 Submission.row Submission.wf := by
  intro H enc w base spare held fuel cs x h hz
  obtain ⟨xs, n, rfl, rfl, hl, hx, hf⟩ := DataW.trod_struct Try.underlying34 h
  rw [cells34] at hl
  have e0 : DataW.trod enc Try.prog w base spare held n 9 ((cs.drop 0).take (Try.prog.cellsOf 9)) = xs[0]? := hf 0 _ rfl
  obtain ⟨x0, h0⟩ : ∃ q, xs[0]? = some q := ⟨xs[0]'(by rw [hx]; decide), List.getElem?_eq_getElem _⟩
  rw [h0, cells9] at e0
  obtain ⟨y0, w0, r0⟩ := (opens_string Try.underlying9) H enc w base spare held n _ x0 e0 (sz_field Try.underlying34 hz (i := 0) rfl (by rw [List.getElem?_map, h0]; rfl))
  have r0' : RowRel w ((cs.drop 0).take 1) (rowS y0) := r0
  have e1 : DataW.trod enc Try.prog w base spare held n 3 ((cs.drop 1).take (Try.prog.cellsOf 3)) = xs[1]? := hf 1 _ rfl
  obtain ⟨x1, h1⟩ : ∃ q, xs[1]? = some q := ⟨xs[1]'(by rw [hx]; decide), List.getElem?_eq_getElem _⟩
  rw [h1, cells3] at e1
  obtain ⟨y1, w1, r1⟩ := (opens_int Try.underlying3) H enc w base spare held n _ x1 e1 (sz_field Try.underlying34 hz (i := 1) rfl (by rw [List.getElem?_map, h1]; rfl))
  have r1' : RowRel w ((cs.drop 1).take 1) ((rowI .i64) y1) := r1
  have e2 : DataW.trod enc Try.prog w base spare held n 3 ((cs.drop 2).take (Try.prog.cellsOf 3)) = xs[2]? := hf 2 _ rfl
  obtain ⟨x2, h2⟩ : ∃ q, xs[2]? = some q := ⟨xs[2]'(by rw [hx]; decide), List.getElem?_eq_getElem _⟩
  rw [h2, cells3] at e2
  obtain ⟨y2, w2, r2⟩ := (opens_int Try.underlying3) H enc w base spare held n _ x2 e2 (sz_field Try.underlying34 hz (i := 2) rfl (by rw [List.getElem?_map, h2]; rfl))
  have r2' : RowRel w ((cs.drop 2).take 1) ((rowI .i64) y2) := r2
  have e3 : DataW.trod enc Try.prog w base spare held n 4 ((cs.drop 3).take (Try.prog.cellsOf 4)) = xs[3]? := hf 3 _ rfl
  obtain ⟨x3, h3⟩ : ∃ q, xs[3]? = some q := ⟨xs[3]'(by rw [hx]; decide), List.getElem?_eq_getElem _⟩
  rw [h3, cells4] at e3
  obtain ⟨y3, w3, r3⟩ := (opens_bool Try.underlying4) H enc w base spare held n _ x3 e3 (sz_field Try.underlying34 hz (i := 3) rfl (by rw [List.getElem?_map, h3]; rfl))
  have r3' : RowRel w ((cs.drop 3).take 1) (rowB y3) := r3
  have e4 : DataW.trod enc Try.prog w base spare held n 25 ((cs.drop 4).take (Try.prog.cellsOf 25)) = xs[4]? := hf 4 _ rfl
  obtain ⟨x4, h4⟩ : ∃ q, xs[4]? = some q := ⟨xs[4]'(by rw [hx]; decide), List.getElem?_eq_getElem _⟩
  rw [h4, cells25] at e4
  obtain ⟨y4, w4, r4⟩ := (opens_slice Try.underlying25 cells71 (by decide) byof71 opens_71) H enc w base spare held n _ x4 e4 (sz_field Try.underlying34 hz (i := 4) rfl (by rw [List.getElem?_map, h4]; rfl))
  have r4' : RowRel w ((cs.drop 4).take 1) ((rowL 4 ActorCall.row) y4) := r4
  exact ⟨⟨y0, y1, y2, y3, y4⟩, ⟨w0, w1, w2, w3, w4, trivial⟩, rowRel_cut (o := 0) (s := 1) r0' (rowRel_cut (o := 1) (s := 1) r1' (rowRel_cut (o := 2) (s := 1) r2' (rowRel_cut (o := 3) (s := 1) r3' (rowRel_cut (o := 4) (s := 1) r4' (rowRel_end (o := 5) (by omega))))))⟩
def PendingSubmission.wf (x : PendingSubmission) : Prop := Submission.wf x.Submission_ ∧ (Lit.int .i64 x.Sent).wf = true ∧ True
theorem cells57 : Try.prog.cellsOf 57 = 6 := by kernel_rfl
theorem opens_57 : Opens Try.prog 57 PendingSubmission.row PendingSubmission.wf := by
  intro H enc w base spare held fuel cs x h hz
  obtain ⟨xs, n, rfl, rfl, hl, hx, hf⟩ := DataW.trod_struct Try.underlying57 h
  rw [cells57] at hl
  have e0 : DataW.trod enc Try.prog w base spare held n 34 ((cs.drop 0).take (Try.prog.cellsOf 34)) = xs[0]? := hf 0 _ rfl
  obtain ⟨x0, h0⟩ : ∃ q, xs[0]? = some q := ⟨xs[0]'(by rw [hx]; decide), List.getElem?_eq_getElem _⟩
  rw [h0, cells34] at e0
  obtain ⟨y0, w0, r0⟩ := opens_34 H enc w base spare held n _ x0 e0 (sz_field Try.underlying57 hz (i := 0) rfl (by rw [List.getElem?_map, h0]; rfl))
  have r0' : RowRel w ((cs.drop 0).take 5) (Submission.row y0) := r0
  have e1 : DataW.trod enc Try.prog w base spare held n 3 ((cs.drop 5).take (Try.prog.cellsOf 3)) = xs[1]? := hf 1 _ rfl
  obtain ⟨x1, h1⟩ : ∃ q, xs[1]? = some q := ⟨xs[1]'(by rw [hx]; decide), List.getElem?_eq_getElem _⟩
  rw [h1, cells3] at e1
  obtain ⟨y1, w1, r1⟩ := (opens_int Try.underlying3) H enc w base spare held n _ x1 e1 (sz_field Try.underlying57 hz (i := 1) rfl (by rw [List.getElem?_map, h1]; rfl))
  have r1' : RowRel w ((cs.drop 5).take 1) ((rowI .i64) y1) := r1
  exact ⟨⟨y0, y1⟩, ⟨w0, w1, trivial⟩, rowRel_cut (o := 0) (s := 5) r0' (rowRel_cut (o := 5) (s := 1) r1' (rowRel_end (o := 6) (by omega)))⟩
def Session.wf (x : Session) : Prop := x.Name.size ≤ 140737488351232 ∧ (Lit.int .i64 x.Next).wf = true ∧ (x.Open.length * 72 ≤ 140737488351232 ∧ ∀ z0 ∈ x.Open, PendingSubmission.wf z0) ∧ True
theorem cells24 : Try.prog.cellsOf 24 = 3 := by kernel_rfl
theorem cells22 : Try.prog.cellsOf 22 = 1 := by kernel_rfl
theorem byof57 : Try.prog.bytesOf 57 = 72 := by kernel_rfl
theorem opens_24 : Opens Try.prog 24 Session.row Session.wf := by
  intro H enc w base spare held fuel cs x h hz
  obtain ⟨xs, n, rfl, rfl, hl, hx, hf⟩ := DataW.trod_struct Try.underlying24 h
  rw [cells24] at hl
  have e0 : DataW.trod enc Try.prog w base spare held n 9 ((cs.drop 0).take (Try.prog.cellsOf 9)) = xs[0]? := hf 0 _ rfl
  obtain ⟨x0, h0⟩ : ∃ q, xs[0]? = some q := ⟨xs[0]'(by rw [hx]; decide), List.getElem?_eq_getElem _⟩
  rw [h0, cells9] at e0
  obtain ⟨y0, w0, r0⟩ := (opens_string Try.underlying9) H enc w base spare held n _ x0 e0 (sz_field Try.underlying24 hz (i := 0) rfl (by rw [List.getElem?_map, h0]; rfl))
  have r0' : RowRel w ((cs.drop 0).take 1) (rowS y0) := r0
  have e1 : DataW.trod enc Try.prog w base spare held n 3 ((cs.drop 1).take (Try.prog.cellsOf 3)) = xs[1]? := hf 1 _ rfl
  obtain ⟨x1, h1⟩ : ∃ q, xs[1]? = some q := ⟨xs[1]'(by rw [hx]; decide), List.getElem?_eq_getElem _⟩
  rw [h1, cells3] at e1
  obtain ⟨y1, w1, r1⟩ := (opens_int Try.underlying3) H enc w base spare held n _ x1 e1 (sz_field Try.underlying24 hz (i := 1) rfl (by rw [List.getElem?_map, h1]; rfl))
  have r1' : RowRel w ((cs.drop 1).take 1) ((rowI .i64) y1) := r1
  have e2 : DataW.trod enc Try.prog w base spare held n 22 ((cs.drop 2).take (Try.prog.cellsOf 22)) = xs[2]? := hf 2 _ rfl
  obtain ⟨x2, h2⟩ : ∃ q, xs[2]? = some q := ⟨xs[2]'(by rw [hx]; decide), List.getElem?_eq_getElem _⟩
  rw [h2, cells22] at e2
  obtain ⟨y2, w2, r2⟩ := (opens_slice Try.underlying22 cells57 (by decide) byof57 opens_57) H enc w base spare held n _ x2 e2 (sz_field Try.underlying24 hz (i := 2) rfl (by rw [List.getElem?_map, h2]; rfl))
  have r2' : RowRel w ((cs.drop 2).take 1) ((rowL 6 PendingSubmission.row) y2) := r2
  exact ⟨⟨y0, y1, y2⟩, ⟨w0, w1, w2, trivial⟩, rowRel_cut (o := 0) (s := 1) r0' (rowRel_cut (o := 1) (s := 1) r1' (rowRel_cut (o := 2) (s := 1) r2' (rowRel_end (o := 3) (by omega))))⟩
def Reply.wf (x : Reply) : Prop := x.Client.size ≤ 140737488351232 ∧ (Lit.int .i64 x.Seq).wf = true ∧ (x.Path.length * 8 ≤ 140737488351232 ∧ ∀ z0 ∈ x.Path, (Lit.int .i64 z0).wf = true) ∧ (Lit.int .i64 x.Err).wf = true ∧ Value.wf x.Value_ ∧ True
theorem cells32 : Try.prog.cellsOf 32 = 9 := by kernel_rfl
theorem cells27 : Try.prog.cellsOf 27 = 1 := by kernel_rfl
theorem opens_32 : Opens Try.prog 32 Reply.row Reply.wf := by
  intro H enc w base spare held fuel cs x h hz
  obtain ⟨xs, n, rfl, rfl, hl, hx, hf⟩ := DataW.trod_struct Try.underlying32 h
  rw [cells32] at hl
  have e0 : DataW.trod enc Try.prog w base spare held n 9 ((cs.drop 0).take (Try.prog.cellsOf 9)) = xs[0]? := hf 0 _ rfl
  obtain ⟨x0, h0⟩ : ∃ q, xs[0]? = some q := ⟨xs[0]'(by rw [hx]; decide), List.getElem?_eq_getElem _⟩
  rw [h0, cells9] at e0
  obtain ⟨y0, w0, r0⟩ := (opens_string Try.underlying9) H enc w base spare held n _ x0 e0 (sz_field Try.underlying32 hz (i := 0) rfl (by rw [List.getElem?_map, h0]; rfl))
  have r0' : RowRel w ((cs.drop 0).take 1) (rowS y0) := r0
  have e1 : DataW.trod enc Try.prog w base spare held n 3 ((cs.drop 1).take (Try.prog.cellsOf 3)) = xs[1]? := hf 1 _ rfl
  obtain ⟨x1, h1⟩ : ∃ q, xs[1]? = some q := ⟨xs[1]'(by rw [hx]; decide), List.getElem?_eq_getElem _⟩
  rw [h1, cells3] at e1
  obtain ⟨y1, w1, r1⟩ := (opens_int Try.underlying3) H enc w base spare held n _ x1 e1 (sz_field Try.underlying32 hz (i := 1) rfl (by rw [List.getElem?_map, h1]; rfl))
  have r1' : RowRel w ((cs.drop 1).take 1) ((rowI .i64) y1) := r1
  have e2 : DataW.trod enc Try.prog w base spare held n 26 ((cs.drop 2).take (Try.prog.cellsOf 26)) = xs[2]? := hf 2 _ rfl
  obtain ⟨x2, h2⟩ : ∃ q, xs[2]? = some q := ⟨xs[2]'(by rw [hx]; decide), List.getElem?_eq_getElem _⟩
  rw [h2, cells26] at e2
  obtain ⟨y2, w2, r2⟩ := (opens_slice Try.underlying26 cells3 (by decide) byof3 (opens_int Try.underlying3)) H enc w base spare held n _ x2 e2 (sz_field Try.underlying32 hz (i := 2) rfl (by rw [List.getElem?_map, h2]; rfl))
  have r2' : RowRel w ((cs.drop 2).take 1) ((rowL 1 (rowI .i64)) y2) := r2
  have e3 : DataW.trod enc Try.prog w base spare held n 27 ((cs.drop 3).take (Try.prog.cellsOf 27)) = xs[3]? := hf 3 _ rfl
  obtain ⟨x3, h3⟩ : ∃ q, xs[3]? = some q := ⟨xs[3]'(by rw [hx]; decide), List.getElem?_eq_getElem _⟩
  rw [h3, cells27] at e3
  obtain ⟨y3, w3, r3⟩ := (opens_int Try.underlying27) H enc w base spare held n _ x3 e3 (sz_field Try.underlying32 hz (i := 3) rfl (by rw [List.getElem?_map, h3]; rfl))
  have r3' : RowRel w ((cs.drop 3).take 1) ((rowI .i64) y3) := r3
  have e4 : DataW.trod enc Try.prog w base spare held n 30 ((cs.drop 4).take (Try.prog.cellsOf 30)) = xs[4]? := hf 4 _ rfl
  obtain ⟨x4, h4⟩ : ∃ q, xs[4]? = some q := ⟨xs[4]'(by rw [hx]; decide), List.getElem?_eq_getElem _⟩
  rw [h4, cells30] at e4
  obtain ⟨y4, w4, r4⟩ := opens_30 H enc w base spare held n _ x4 e4 (sz_field Try.underlying32 hz (i := 4) rfl (by rw [List.getElem?_map, h4]; rfl))
  have r4' : RowRel w ((cs.drop 4).take 5) (Value.row y4) := r4
  exact ⟨⟨y0, y1, y2, y3, y4⟩, ⟨w0, w1, w2, w3, w4, trivial⟩, rowRel_cut (o := 0) (s := 1) r0' (rowRel_cut (o := 1) (s := 1) r1' (rowRel_cut (o := 2) (s := 1) r2' (rowRel_cut (o := 3) (s := 1) r3' (rowRel_cut (o := 4) (s := 5) r4' (rowRel_end (o := 9) (by omega))))))⟩
theorem plain : (y0 : Session) → Session.wf y0 → (y1 : ByteArray) → y1.size ≤ 140737488351232 → (y2 : Int) → (Lit.int .i64 y2).wf = true → (y3 : Bool) → True → (y4 : (List ActorCall)) → (y4.length * 72 ≤ 140737488351232 ∧ ∀ z0 ∈ y4, ActorCall.wf z0) → (y5 : Reply) → Reply.wf y5 → (y6 : Submission) → Submission.wf y6 → ∃ N, law34_SessionAny N y0 y1 y2 y3 y4 y5 y6 = some true := fun c _ n _ t _ b _ l hl r _ s _ => ⟨1001, plain_SessionAny c n t b l r s (fun x hx => ⟨by have := (hl.2 x hx).2.2.1.1; omega, fun v hv => by have := (hl.2 x hx).2.2.1.2 v hv; exact ⟨by have := this.2.2.2.1.1; omega, by have := this.2.2.2.2.1.1; omega⟩⟩)⟩
theorem own : ownKnob Try.prog.godebug = none := by kernel_rfl
theorem laidOut : laidOutB Try.prog = true := by kernel_rfl
theorem readable : ((Try.f3.params.toList).all fun t => Try.prog.readableRec t && decide (t < Try.prog.types.size)) = true := by kernel_rfl
theorem contract (H : Type) (enc : TypeId × Go.Value → H) (W : World) (base : Nat) (args : Array Go.Value) (ds gs : List (DataW H)) (before : List MemPlace)
    (hval : ∀ (j : Nat) t v, Try.f3.params[j]? = some t → args[j]? = some v → Go.Value.okWide Try.prog W .any base t v)
    (hW : DataW.Whole enc Try.prog Try.f3.params.toList Rows.sessionAnySpec.vars false W args.toList ds gs before)
    (hZ : (DataW.weightsEach Try.prog (Try.f3.params.toList ++ Rows.sessionAnySpec.plain.varTypes Try.prog) (ds ++ gs)).all (· ≤ reachBytes) = true) :
    Calls Try.prog 3 args W fun e W' => ∃ v, e = .returned v ∧ Rows.sessionAnySpec.post enc Try.prog Try.f3 false true false false W args v W' := by
  have hW0 := hW
  obtain ⟨p, q, hA0, hV, rfl, hfz, hnd⟩ := hW
  have hA : DataW.TrodAll enc Try.prog W 0 (fun _ => true) true Try.f3.params.toList args.toList ds p := hA0
  have hZ' := hZ
  rw [Try.params3] at hA hval hZ'
  obtain ⟨v0, vs0, d0, ds0, p0, q0, hargs, rfl, rfl, h0, t0⟩ := trodAll_cons hA
  obtain ⟨v1, vs1, d1, ds1, p1, q1, hvs1, rfl, rfl, h1, t1⟩ := trodAll_cons t0
  obtain ⟨v2, vs2, d2, ds2, p2, q2, hvs2, rfl, rfl, h2, t2⟩ := trodAll_cons t1
  obtain ⟨v3, vs3, d3, ds3, p3, q3, hvs3, rfl, rfl, h3, t3⟩ := trodAll_cons t2
  obtain ⟨v4, vs4, d4, ds4, p4, q4, hvs4, rfl, rfl, h4, t4⟩ := trodAll_cons t3
  obtain ⟨v5, vs5, d5, ds5, p5, q5, hvs5, rfl, rfl, h5, t5⟩ := trodAll_cons t4
  obtain ⟨v6, vs6, d6, ds6, p6, q6, hvs6, rfl, rfl, h6, t6⟩ := trodAll_cons t5
  obtain ⟨hn1, rfl, rfl⟩ := trodAll_nil t6
  obtain ⟨rfl, rfl⟩ := trodVars_none hV
  have hargs' : args = #[v0, v1, v2, v3, v4, v5, v6] := by
    have : args.toList = [v0, v1, v2, v3, v4, v5, v6] := by rw [hargs, hvs1, hvs2, hvs3, hvs4, hvs5, hvs6, hn1]
    rw [← Array.toArray_toList (xs := args), this]
  subst hargs'
  obtain ⟨fu0, k0⟩ := h0
  obtain ⟨y0, w0, r0⟩ := opens_24 _ _ _ _ _ _ _ _ _ k0 (sz_arg hZ' (j := 0) rfl rfl)
  obtain ⟨cs0, hv0, _⟩ := okWide_struct Try.underlying24 (hval 0 24 v0 rfl rfl)
  subst hv0
  have g0 := arg_agg r0
  obtain ⟨fu1, k1⟩ := h1
  obtain ⟨y1, w1, r1⟩ := (opens_string Try.underlying9) _ _ _ _ _ _ _ _ _ k1 (sz_arg hZ' (j := 1) rfl rfl)
  obtain ⟨n1, hv1⟩ := okWide_string Try.underlying9 (hval 1 9 v1 rfl rfl)
  subst hv1
  have g1 := arg_one rfl r1
  obtain ⟨fu2, k2⟩ := h2
  obtain ⟨y2, w2, r2⟩ := (opens_int Try.underlying3) _ _ _ _ _ _ _ _ _ k2 (sz_arg hZ' (j := 2) rfl rfl)
  obtain ⟨n2, hv2⟩ := okWide_int Try.underlying3 (hval 2 3 v2 rfl rfl)
  subst hv2
  have g2 := arg_one rfl r2
  obtain ⟨fu3, k3⟩ := h3
  obtain ⟨y3, w3, r3⟩ := (opens_bool Try.underlying4) _ _ _ _ _ _ _ _ _ k3 (sz_arg hZ' (j := 3) rfl rfl)
  obtain ⟨n3, hv3⟩ := okWide_bool Try.underlying4 (hval 3 4 v3 rfl rfl)
  subst hv3
  have g3 := arg_one rfl r3
  obtain ⟨fu4, k4⟩ := h4
  obtain ⟨y4, w4, r4⟩ := (opens_slice Try.underlying25 cells71 (by decide) byof71 opens_71) _ _ _ _ _ _ _ _ _ k4 (sz_arg hZ' (j := 4) rfl rfl)
  obtain ⟨a4, len4, cap4, hv4⟩ := okWide_slice Try.underlying25 (hval 4 25 v4 rfl rfl)
  subst hv4
  have g4 := arg_one rfl r4
  obtain ⟨fu5, k5⟩ := h5
  obtain ⟨y5, w5, r5⟩ := opens_32 _ _ _ _ _ _ _ _ _ k5 (sz_arg hZ' (j := 5) rfl rfl)
  obtain ⟨cs5, hv5, _⟩ := okWide_struct Try.underlying32 (hval 5 32 v5 rfl rfl)
  subst hv5
  have g5 := arg_agg r5
  obtain ⟨fu6, k6⟩ := h6
  obtain ⟨y6, w6, r6⟩ := opens_34 _ _ _ _ _ _ _ _ _ k6 (sz_arg hZ' (j := 6) rfl rfl)
  obtain ⟨cs6, hv6, _⟩ := okWide_struct Try.underlying34 (hval 6 34 v6 rfl rfl)
  subst hv6
  have g6 := arg_agg r6
  obtain ⟨N, hN⟩ := plain y0 w0 y1 w1 y2 w2 y3 w3 y4 w4 y5 w5 y6 w6
  refine (calls_of_con (us := [_, _, _, _, _, _, _]) (⟨Try.func3, rfl, by decide, by kernel_rfl⟩ : FunOk Try.prog 3 _ _) (w_law34_SessionAny N y0 y1 y2 y3 y4 y5 y6 true hN) rfl (args_cons g0 (args_cons g1 (args_cons g2 (args_cons g3 (args_cons g4 (args_cons g5 (args_cons g6 (args_nil))))))))).mono fun e W' he => ?_
  obtain ⟨he, hfr⟩ := he
  subst he
  refine ⟨_, rfl, law_post (tb := 4) laidOut ?_ (by kernel_rfl) Try.underlying4 rfl rfl hW0 hfr⟩
  intro t ht
  have := List.all_eq_true.1 readable t ht
  rw [Bool.and_eq_true, decide_eq_true_eq] at this
  exact this

set_option maxRecDepth 100000 in
theorem lifted (os : Os) (started : os.Started) (H : Type) (enc : TypeId × Go.Value → H) :
    ReturnsInHanded {} Try.checked os 3 .any (Rows.sessionAnySpec.pre6 enc Try.prog Try.f3 Rows.sessionAnyRow.domain false) (Rows.sessionAnySpec.post enc Try.prog Try.f3 false true false false) := by
  refine returnsInHanded_of_change_sized (C := Try.checked) own started (by kernel_rfl) Try.func3
    (ChangeSpec.witness6 (enc := enc) (C := Try.checked) false ⟨#[], #[.agg #[.string .empty, .int .i64 0, .slice none 0 0], .string .empty, .int .i64 0, .bool false, .slice none 0 0, .agg #[.string .empty, .int .i64 0, .slice none 0 0, .int .i64 0, .int .i64 0, .int .i64 0, .string .empty, .slice none 0 0, .slice none 0 0], .agg #[.string .empty, .int .i64 0, .int .i64 0, .bool false, .slice none 0 0]], []⟩ 12 (by kernel_rfl) (by kernel_rfl) (by kernel_rfl) (by kernel_rfl)) ?_
  intro W base args ds gs before hval hW _ hz _
  exact contract H enc W base args ds gs before hval hW hz

theorem sessionAny_holds : Rows.SessionAnySaid :=
  OpenClaim.holds_of_wide 3 Try.f3 rfl rfl rfl rfl rfl rfl rfl ⟨rfl, rfl, rfl, rfl, rfl⟩ rfl rfl rfl rfl rfl (by kernel_rfl) Try.func3 (by kernel_rfl)
    (of_decide_eq_true (by kernel_rfl)) (by unfold Func.isWrapper; first | (rw [if_pos (by decide +kernel)]; kernel_rfl) | (rw [if_neg (by decide +kernel)]; exact ⟨rfl, rfl⟩))
    (fun os started H enc _ => lifted os started H enc)
end Go.Proofs.Ythgcdhclommkcaa
