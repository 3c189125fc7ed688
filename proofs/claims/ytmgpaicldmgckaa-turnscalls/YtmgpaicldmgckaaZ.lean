/- The statement TurnsCallsSaid is proved: for every input the law TurnsCalls returns true, and what it was given reads as before. No condition. -/
import Derived.Test.YtmgpaicldmgckaaRows
import Derived.Test.YtmgpaicldmgckaaWB
import Derived.Test.YtmgpaicldmgckaaLA
import Derived.WalkKit
import Derived.ProofKit
import Derived.OpenShut
set_option linter.unusedSimpArgs false
set_option linter.unusedVariables false
set_option maxRecDepth 100000
namespace Go.Proofs.Ytmgpaicldmgckaa
open Go Go.Proofs Go.Abs Go.ChangeShapes Go.WideShapes Go.ChangeAt Go.RowKit
open Go.ChangeMaps (open_string shut_string)
def Ref.wf (x : Ref) : Prop := x.Type_.size ≤ maxLen ∧ x.Key.size ≤ maxLen ∧ True
theorem cells23 : Try.prog.cellsOf 23 = 2 := by kernel_rfl
theorem cells9 : Try.prog.cellsOf 9 = 1 := by kernel_rfl
theorem opens_23 : Opens Try.prog 23 Ref.row Ref.wf := by
  intro H enc w base spare held fuel cs x h
  obtain ⟨xs, n, rfl, _, hl, hx, hf⟩ := DataW.trod_struct Try.underlying23 h
  rw [cells23] at hl
  have e0 : DataW.trod enc Try.prog w base spare held n 9 ((cs.drop 0).take (Try.prog.cellsOf 9)) = xs[0]? := hf 0 _ rfl
  obtain ⟨x0, h0⟩ : ∃ q, xs[0]? = some q := ⟨xs[0]'(by rw [hx]; decide), List.getElem?_eq_getElem _⟩
  rw [h0, cells9] at e0
  obtain ⟨y0, w0, r0⟩ := (opens_string Try.underlying9) H enc w base spare held n _ x0 e0
  have r0' : RowRel w ((cs.drop 0).take 1) (rowS y0) := r0
  have e1 : DataW.trod enc Try.prog w base spare held n 9 ((cs.drop 1).take (Try.prog.cellsOf 9)) = xs[1]? := hf 1 _ rfl
  obtain ⟨x1, h1⟩ : ∃ q, xs[1]? = some q := ⟨xs[1]'(by rw [hx]; decide), List.getElem?_eq_getElem _⟩
  rw [h1, cells9] at e1
  obtain ⟨y1, w1, r1⟩ := (opens_string Try.underlying9) H enc w base spare held n _ x1 e1
  have r1' : RowRel w ((cs.drop 1).take 1) (rowS y1) := r1
  exact ⟨⟨y0, y1⟩, ⟨w0, w1, trivial⟩, rowRel_cut (o := 0) (s := 1) r0' (rowRel_cut (o := 1) (s := 1) r1' (rowRel_end (o := 2) (by omega)))⟩
def Value.wf (x : Value) : Prop := (Lit.int .i64 x.Kind).wf = true ∧ (Lit.int .i64 x.N).wf = true ∧ x.S.size ≤ maxLen ∧ (x.I.length ≤ maxLen ∧ ∀ z0 ∈ x.I, (Lit.int .i64 z0).wf = true) ∧ (x.L.length ≤ maxLen ∧ ∀ z0 ∈ x.L, z0.size ≤ maxLen) ∧ True
theorem cells35 : Try.prog.cellsOf 35 = 5 := by kernel_rfl
theorem cells3 : Try.prog.cellsOf 3 = 1 := by kernel_rfl
theorem cells27 : Try.prog.cellsOf 27 = 1 := by kernel_rfl
theorem cells33 : Try.prog.cellsOf 33 = 1 := by kernel_rfl
theorem opens_35 : Opens Try.prog 35 Value.row Value.wf := by
  intro H enc w base spare held fuel cs x h
  obtain ⟨xs, n, rfl, _, hl, hx, hf⟩ := DataW.trod_struct Try.underlying35 h
  rw [cells35] at hl
  have e0 : DataW.trod enc Try.prog w base spare held n 3 ((cs.drop 0).take (Try.prog.cellsOf 3)) = xs[0]? := hf 0 _ rfl
  obtain ⟨x0, h0⟩ : ∃ q, xs[0]? = some q := ⟨xs[0]'(by rw [hx]; decide), List.getElem?_eq_getElem _⟩
  rw [h0, cells3] at e0
  obtain ⟨y0, w0, r0⟩ := (opens_int Try.underlying3) H enc w base spare held n _ x0 e0
  have r0' : RowRel w ((cs.drop 0).take 1) ((rowI .i64) y0) := r0
  have e1 : DataW.trod enc Try.prog w base spare held n 3 ((cs.drop 1).take (Try.prog.cellsOf 3)) = xs[1]? := hf 1 _ rfl
  obtain ⟨x1, h1⟩ : ∃ q, xs[1]? = some q := ⟨xs[1]'(by rw [hx]; decide), List.getElem?_eq_getElem _⟩
  rw [h1, cells3] at e1
  obtain ⟨y1, w1, r1⟩ := (opens_int Try.underlying3) H enc w base spare held n _ x1 e1
  have r1' : RowRel w ((cs.drop 1).take 1) ((rowI .i64) y1) := r1
  have e2 : DataW.trod enc Try.prog w base spare held n 9 ((cs.drop 2).take (Try.prog.cellsOf 9)) = xs[2]? := hf 2 _ rfl
  obtain ⟨x2, h2⟩ : ∃ q, xs[2]? = some q := ⟨xs[2]'(by rw [hx]; decide), List.getElem?_eq_getElem _⟩
  rw [h2, cells9] at e2
  obtain ⟨y2, w2, r2⟩ := (opens_string Try.underlying9) H enc w base spare held n _ x2 e2
  have r2' : RowRel w ((cs.drop 2).take 1) (rowS y2) := r2
  have e3 : DataW.trod enc Try.prog w base spare held n 27 ((cs.drop 3).take (Try.prog.cellsOf 27)) = xs[3]? := hf 3 _ rfl
  obtain ⟨x3, h3⟩ : ∃ q, xs[3]? = some q := ⟨xs[3]'(by rw [hx]; decide), List.getElem?_eq_getElem _⟩
  rw [h3, cells27] at e3
  obtain ⟨y3, w3, r3⟩ := (opens_slice Try.underlying27 cells3 (by decide) (opens_int Try.underlying3)) H enc w base spare held n _ x3 e3
  have r3' : RowRel w ((cs.drop 3).take 1) ((rowL 1 (rowI .i64)) y3) := r3
  have e4 : DataW.trod enc Try.prog w base spare held n 33 ((cs.drop 4).take (Try.prog.cellsOf 33)) = xs[4]? := hf 4 _ rfl
  obtain ⟨x4, h4⟩ : ∃ q, xs[4]? = some q := ⟨xs[4]'(by rw [hx]; decide), List.getElem?_eq_getElem _⟩
  rw [h4, cells33] at e4
  obtain ⟨y4, w4, r4⟩ := (opens_slice Try.underlying33 cells9 (by decide) (opens_string Try.underlying9)) H enc w base spare held n _ x4 e4
  have r4' : RowRel w ((cs.drop 4).take 1) ((rowL 1 rowS) y4) := r4
  exact ⟨⟨y0, y1, y2, y3, y4⟩, ⟨w0, w1, w2, w3, w4, trivial⟩, rowRel_cut (o := 0) (s := 1) r0' (rowRel_cut (o := 1) (s := 1) r1' (rowRel_cut (o := 2) (s := 1) r2' (rowRel_cut (o := 3) (s := 1) r3' (rowRel_cut (o := 4) (s := 1) r4' (rowRel_end (o := 5) (by omega))))))⟩
def Request.wf (x : Request) : Prop := x.Client.size ≤ maxLen ∧ (Lit.int .i64 x.Seq).wf = true ∧ (x.Path.length ≤ maxLen ∧ ∀ z0 ∈ x.Path, (Lit.int .i64 z0).wf = true) ∧ Ref.wf x.Target ∧ x.Method.size ≤ maxLen ∧ (x.Args.length ≤ maxLen ∧ ∀ z0 ∈ x.Args, Value.wf z0) ∧ (x.Chain.length ≤ maxLen ∧ ∀ z0 ∈ x.Chain, Ref.wf z0) ∧ (Lit.int .i64 x.Txn).wf = true ∧ True
theorem cells31 : Try.prog.cellsOf 31 = 9 := by kernel_rfl
theorem cells28 : Try.prog.cellsOf 28 = 1 := by kernel_rfl
theorem cells29 : Try.prog.cellsOf 29 = 1 := by kernel_rfl
theorem opens_31 : Opens Try.prog 31 Request.row Request.wf := by
  intro H enc w base spare held fuel cs x h
  obtain ⟨xs, n, rfl, _, hl, hx, hf⟩ := DataW.trod_struct Try.underlying31 h
  rw [cells31] at hl
  have e0 : DataW.trod enc Try.prog w base spare held n 9 ((cs.drop 0).take (Try.prog.cellsOf 9)) = xs[0]? := hf 0 _ rfl
  obtain ⟨x0, h0⟩ : ∃ q, xs[0]? = some q := ⟨xs[0]'(by rw [hx]; decide), List.getElem?_eq_getElem _⟩
  rw [h0, cells9] at e0
  obtain ⟨y0, w0, r0⟩ := (opens_string Try.underlying9) H enc w base spare held n _ x0 e0
  have r0' : RowRel w ((cs.drop 0).take 1) (rowS y0) := r0
  have e1 : DataW.trod enc Try.prog w base spare held n 3 ((cs.drop 1).take (Try.prog.cellsOf 3)) = xs[1]? := hf 1 _ rfl
  obtain ⟨x1, h1⟩ : ∃ q, xs[1]? = some q := ⟨xs[1]'(by rw [hx]; decide), List.getElem?_eq_getElem _⟩
  rw [h1, cells3] at e1
  obtain ⟨y1, w1, r1⟩ := (opens_int Try.underlying3) H enc w base spare held n _ x1 e1
  have r1' : RowRel w ((cs.drop 1).take 1) ((rowI .i64) y1) := r1
  have e2 : DataW.trod enc Try.prog w base spare held n 27 ((cs.drop 2).take (Try.prog.cellsOf 27)) = xs[2]? := hf 2 _ rfl
  obtain ⟨x2, h2⟩ : ∃ q, xs[2]? = some q := ⟨xs[2]'(by rw [hx]; decide), List.getElem?_eq_getElem _⟩
  rw [h2, cells27] at e2
  obtain ⟨y2, w2, r2⟩ := (opens_slice Try.underlying27 cells3 (by decide) (opens_int Try.underlying3)) H enc w base spare held n _ x2 e2
  have r2' : RowRel w ((cs.drop 2).take 1) ((rowL 1 (rowI .i64)) y2) := r2
  have e3 : DataW.trod enc Try.prog w base spare held n 23 ((cs.drop 3).take (Try.prog.cellsOf 23)) = xs[3]? := hf 3 _ rfl
  obtain ⟨x3, h3⟩ : ∃ q, xs[3]? = some q := ⟨xs[3]'(by rw [hx]; decide), List.getElem?_eq_getElem _⟩
  rw [h3, cells23] at e3
  obtain ⟨y3, w3, r3⟩ := opens_23 H enc w base spare held n _ x3 e3
  have r3' : RowRel w ((cs.drop 3).take 2) (Ref.row y3) := r3
  have e4 : DataW.trod enc Try.prog w base spare held n 9 ((cs.drop 5).take (Try.prog.cellsOf 9)) = xs[4]? := hf 4 _ rfl
  obtain ⟨x4, h4⟩ : ∃ q, xs[4]? = some q := ⟨xs[4]'(by rw [hx]; decide), List.getElem?_eq_getElem _⟩
  rw [h4, cells9] at e4
  obtain ⟨y4, w4, r4⟩ := (opens_string Try.underlying9) H enc w base spare held n _ x4 e4
  have r4' : RowRel w ((cs.drop 5).take 1) (rowS y4) := r4
  have e5 : DataW.trod enc Try.prog w base spare held n 28 ((cs.drop 6).take (Try.prog.cellsOf 28)) = xs[5]? := hf 5 _ rfl
  obtain ⟨x5, h5⟩ : ∃ q, xs[5]? = some q := ⟨xs[5]'(by rw [hx]; decide), List.getElem?_eq_getElem _⟩
  rw [h5, cells28] at e5
  obtain ⟨y5, w5, r5⟩ := (opens_slice Try.underlying28 cells35 (by decide) opens_35) H enc w base spare held n _ x5 e5
  have r5' : RowRel w ((cs.drop 6).take 1) ((rowL 5 Value.row) y5) := r5
  have e6 : DataW.trod enc Try.prog w base spare held n 29 ((cs.drop 7).take (Try.prog.cellsOf 29)) = xs[6]? := hf 6 _ rfl
  obtain ⟨x6, h6⟩ : ∃ q, xs[6]? = some q := ⟨xs[6]'(by rw [hx]; decide), List.getElem?_eq_getElem _⟩
  rw [h6, cells29] at e6
  obtain ⟨y6, w6, r6⟩ := (opens_slice Try.underlying29 cells23 (by decide) opens_23) H enc w base spare held n _ x6 e6
  have r6' : RowRel w ((cs.drop 7).take 1) ((rowL 2 Ref.row) y6) := r6
  have e7 : DataW.trod enc Try.prog w base spare held n 3 ((cs.drop 8).take (Try.prog.cellsOf 3)) = xs[7]? := hf 7 _ rfl
  obtain ⟨x7, h7⟩ : ∃ q, xs[7]? = some q := ⟨xs[7]'(by rw [hx]; decide), List.getElem?_eq_getElem _⟩
  rw [h7, cells3] at e7
  obtain ⟨y7, w7, r7⟩ := (opens_int Try.underlying3) H enc w base spare held n _ x7 e7
  have r7' : RowRel w ((cs.drop 8).take 1) ((rowI .i64) y7) := r7
  exact ⟨⟨y0, y1, y2, y3, y4, y5, y6, y7⟩, ⟨w0, w1, w2, w3, w4, w5, w6, w7, trivial⟩, rowRel_cut (o := 0) (s := 1) r0' (rowRel_cut (o := 1) (s := 1) r1' (rowRel_cut (o := 2) (s := 1) r2' (rowRel_cut (o := 3) (s := 2) r3' (rowRel_cut (o := 5) (s := 1) r4' (rowRel_cut (o := 6) (s := 1) r5' (rowRel_cut (o := 7) (s := 1) r6' (rowRel_cut (o := 8) (s := 1) r7' (rowRel_end (o := 9) (by omega)))))))))⟩
def Reply.wf (x : Reply) : Prop := x.Client.size ≤ maxLen ∧ (Lit.int .i64 x.Seq).wf = true ∧ (x.Path.length ≤ maxLen ∧ ∀ z0 ∈ x.Path, (Lit.int .i64 z0).wf = true) ∧ (Lit.int .i64 x.Err).wf = true ∧ Value.wf x.Value_ ∧ True
theorem cells37 : Try.prog.cellsOf 37 = 9 := by kernel_rfl
theorem cells32 : Try.prog.cellsOf 32 = 1 := by kernel_rfl
theorem opens_37 : Opens Try.prog 37 Reply.row Reply.wf := by
  intro H enc w base spare held fuel cs x h
  obtain ⟨xs, n, rfl, _, hl, hx, hf⟩ := DataW.trod_struct Try.underlying37 h
  rw [cells37] at hl
  have e0 : DataW.trod enc Try.prog w base spare held n 9 ((cs.drop 0).take (Try.prog.cellsOf 9)) = xs[0]? := hf 0 _ rfl
  obtain ⟨x0, h0⟩ : ∃ q, xs[0]? = some q := ⟨xs[0]'(by rw [hx]; decide), List.getElem?_eq_getElem _⟩
  rw [h0, cells9] at e0
  obtain ⟨y0, w0, r0⟩ := (opens_string Try.underlying9) H enc w base spare held n _ x0 e0
  have r0' : RowRel w ((cs.drop 0).take 1) (rowS y0) := r0
  have e1 : DataW.trod enc Try.prog w base spare held n 3 ((cs.drop 1).take (Try.prog.cellsOf 3)) = xs[1]? := hf 1 _ rfl
  obtain ⟨x1, h1⟩ : ∃ q, xs[1]? = some q := ⟨xs[1]'(by rw [hx]; decide), List.getElem?_eq_getElem _⟩
  rw [h1, cells3] at e1
  obtain ⟨y1, w1, r1⟩ := (opens_int Try.underlying3) H enc w base spare held n _ x1 e1
  have r1' : RowRel w ((cs.drop 1).take 1) ((rowI .i64) y1) := r1
  have e2 : DataW.trod enc Try.prog w base spare held n 27 ((cs.drop 2).take (Try.prog.cellsOf 27)) = xs[2]? := hf 2 _ rfl
  obtain ⟨x2, h2⟩ : ∃ q, xs[2]? = some q := ⟨xs[2]'(by rw [hx]; decide), List.getElem?_eq_getElem _⟩
  rw [h2, cells27] at e2
  obtain ⟨y2, w2, r2⟩ := (opens_slice Try.underlying27 cells3 (by decide) (opens_int Try.underlying3)) H enc w base spare held n _ x2 e2
  have r2' : RowRel w ((cs.drop 2).take 1) ((rowL 1 (rowI .i64)) y2) := r2
  have e3 : DataW.trod enc Try.prog w base spare held n 32 ((cs.drop 3).take (Try.prog.cellsOf 32)) = xs[3]? := hf 3 _ rfl
  obtain ⟨x3, h3⟩ : ∃ q, xs[3]? = some q := ⟨xs[3]'(by rw [hx]; decide), List.getElem?_eq_getElem _⟩
  rw [h3, cells32] at e3
  obtain ⟨y3, w3, r3⟩ := (opens_int Try.underlying32) H enc w base spare held n _ x3 e3
  have r3' : RowRel w ((cs.drop 3).take 1) ((rowI .i64) y3) := r3
  have e4 : DataW.trod enc Try.prog w base spare held n 35 ((cs.drop 4).take (Try.prog.cellsOf 35)) = xs[4]? := hf 4 _ rfl
  obtain ⟨x4, h4⟩ : ∃ q, xs[4]? = some q := ⟨xs[4]'(by rw [hx]; decide), List.getElem?_eq_getElem _⟩
  rw [h4, cells35] at e4
  obtain ⟨y4, w4, r4⟩ := opens_35 H enc w base spare held n _ x4 e4
  have r4' : RowRel w ((cs.drop 4).take 5) (Value.row y4) := r4
  exact ⟨⟨y0, y1, y2, y3, y4⟩, ⟨w0, w1, w2, w3, w4, trivial⟩, rowRel_cut (o := 0) (s := 1) r0' (rowRel_cut (o := 1) (s := 1) r1' (rowRel_cut (o := 2) (s := 1) r2' (rowRel_cut (o := 3) (s := 1) r3' (rowRel_cut (o := 4) (s := 5) r4' (rowRel_end (o := 9) (by omega))))))⟩
def Turn.wf (x : Turn) : Prop := Request.wf x.Request_ ∧ (Lit.int .i64 x.Calls).wf = true ∧ Request.wf x.Call ∧ True ∧ True ∧ Reply.wf x.Reply_ ∧ True
theorem cells56 : Try.prog.cellsOf 56 = 30 := by kernel_rfl
theorem cells4 : Try.prog.cellsOf 4 = 1 := by kernel_rfl
theorem opens_56 : Opens Try.prog 56 Turn.row Turn.wf := by
  intro H enc w base spare held fuel cs x h
  obtain ⟨xs, n, rfl, _, hl, hx, hf⟩ := DataW.trod_struct Try.underlying56 h
  rw [cells56] at hl
  have e0 : DataW.trod enc Try.prog w base spare held n 31 ((cs.drop 0).take (Try.prog.cellsOf 31)) = xs[0]? := hf 0 _ rfl
  obtain ⟨x0, h0⟩ : ∃ q, xs[0]? = some q := ⟨xs[0]'(by rw [hx]; decide), List.getElem?_eq_getElem _⟩
  rw [h0, cells31] at e0
  obtain ⟨y0, w0, r0⟩ := opens_31 H enc w base spare held n _ x0 e0
  have r0' : RowRel w ((cs.drop 0).take 9) (Request.row y0) := r0
  have e1 : DataW.trod enc Try.prog w base spare held n 3 ((cs.drop 9).take (Try.prog.cellsOf 3)) = xs[1]? := hf 1 _ rfl
  obtain ⟨x1, h1⟩ : ∃ q, xs[1]? = some q := ⟨xs[1]'(by rw [hx]; decide), List.getElem?_eq_getElem _⟩
  rw [h1, cells3] at e1
  obtain ⟨y1, w1, r1⟩ := (opens_int Try.underlying3) H enc w base spare held n _ x1 e1
  have r1' : RowRel w ((cs.drop 9).take 1) ((rowI .i64) y1) := r1
  have e2 : DataW.trod enc Try.prog w base spare held n 31 ((cs.drop 10).take (Try.prog.cellsOf 31)) = xs[2]? := hf 2 _ rfl
  obtain ⟨x2, h2⟩ : ∃ q, xs[2]? = some q := ⟨xs[2]'(by rw [hx]; decide), List.getElem?_eq_getElem _⟩
  rw [h2, cells31] at e2
  obtain ⟨y2, w2, r2⟩ := opens_31 H enc w base spare held n _ x2 e2
  have r2' : RowRel w ((cs.drop 10).take 9) (Request.row y2) := r2
  have e3 : DataW.trod enc Try.prog w base spare held n 4 ((cs.drop 19).take (Try.prog.cellsOf 4)) = xs[3]? := hf 3 _ rfl
  obtain ⟨x3, h3⟩ : ∃ q, xs[3]? = some q := ⟨xs[3]'(by rw [hx]; decide), List.getElem?_eq_getElem _⟩
  rw [h3, cells4] at e3
  obtain ⟨y3, w3, r3⟩ := (opens_bool Try.underlying4) H enc w base spare held n _ x3 e3
  have r3' : RowRel w ((cs.drop 19).take 1) (rowB y3) := r3
  have e4 : DataW.trod enc Try.prog w base spare held n 4 ((cs.drop 20).take (Try.prog.cellsOf 4)) = xs[4]? := hf 4 _ rfl
  obtain ⟨x4, h4⟩ : ∃ q, xs[4]? = some q := ⟨xs[4]'(by rw [hx]; decide), List.getElem?_eq_getElem _⟩
  rw [h4, cells4] at e4
  obtain ⟨y4, w4, r4⟩ := (opens_bool Try.underlying4) H enc w base spare held n _ x4 e4
  have r4' : RowRel w ((cs.drop 20).take 1) (rowB y4) := r4
  have e5 : DataW.trod enc Try.prog w base spare held n 37 ((cs.drop 21).take (Try.prog.cellsOf 37)) = xs[5]? := hf 5 _ rfl
  obtain ⟨x5, h5⟩ : ∃ q, xs[5]? = some q := ⟨xs[5]'(by rw [hx]; decide), List.getElem?_eq_getElem _⟩
  rw [h5, cells37] at e5
  obtain ⟨y5, w5, r5⟩ := opens_37 H enc w base spare held n _ x5 e5
  have r5' : RowRel w ((cs.drop 21).take 9) (Reply.row y5) := r5
  exact ⟨⟨y0, y1, y2, y3, y4, y5⟩, ⟨w0, w1, w2, w3, w4, w5, trivial⟩, rowRel_cut (o := 0) (s := 9) r0' (rowRel_cut (o := 9) (s := 1) r1' (rowRel_cut (o := 10) (s := 9) r2' (rowRel_cut (o := 19) (s := 1) r3' (rowRel_cut (o := 20) (s := 1) r4' (rowRel_cut (o := 21) (s := 9) r5' (rowRel_end (o := 30) (by omega)))))))⟩
def Actor.wf (x : Actor) : Prop := Ref.wf x.Self ∧ (Lit.int .i64 x.Index).wf = true ∧ (x.Stack.length ≤ maxLen ∧ ∀ z0 ∈ x.Stack, Turn.wf z0) ∧ True
theorem cells26 : Try.prog.cellsOf 26 = 4 := by kernel_rfl
theorem cells24 : Try.prog.cellsOf 24 = 1 := by kernel_rfl
theorem opens_26 : Opens Try.prog 26 Actor.row Actor.wf := by
  intro H enc w base spare held fuel cs x h
  obtain ⟨xs, n, rfl, _, hl, hx, hf⟩ := DataW.trod_struct Try.underlying26 h
  rw [cells26] at hl
  have e0 : DataW.trod enc Try.prog w base spare held n 23 ((cs.drop 0).take (Try.prog.cellsOf 23)) = xs[0]? := hf 0 _ rfl
  obtain ⟨x0, h0⟩ : ∃ q, xs[0]? = some q := ⟨xs[0]'(by rw [hx]; decide), List.getElem?_eq_getElem _⟩
  rw [h0, cells23] at e0
  obtain ⟨y0, w0, r0⟩ := opens_23 H enc w base spare held n _ x0 e0
  have r0' : RowRel w ((cs.drop 0).take 2) (Ref.row y0) := r0
  have e1 : DataW.trod enc Try.prog w base spare held n 3 ((cs.drop 2).take (Try.prog.cellsOf 3)) = xs[1]? := hf 1 _ rfl
  obtain ⟨x1, h1⟩ : ∃ q, xs[1]? = some q := ⟨xs[1]'(by rw [hx]; decide), List.getElem?_eq_getElem _⟩
  rw [h1, cells3] at e1
  obtain ⟨y1, w1, r1⟩ := (opens_int Try.underlying3) H enc w base spare held n _ x1 e1
  have r1' : RowRel w ((cs.drop 2).take 1) ((rowI .i64) y1) := r1
  have e2 : DataW.trod enc Try.prog w base spare held n 24 ((cs.drop 3).take (Try.prog.cellsOf 24)) = xs[2]? := hf 2 _ rfl
  obtain ⟨x2, h2⟩ : ∃ q, xs[2]? = some q := ⟨xs[2]'(by rw [hx]; decide), List.getElem?_eq_getElem _⟩
  rw [h2, cells24] at e2
  obtain ⟨y2, w2, r2⟩ := (opens_slice Try.underlying24 cells56 (by decide) opens_56) H enc w base spare held n _ x2 e2
  have r2' : RowRel w ((cs.drop 3).take 1) ((rowL 30 Turn.row) y2) := r2
  exact ⟨⟨y0, y1, y2⟩, ⟨w0, w1, w2, trivial⟩, rowRel_cut (o := 0) (s := 2) r0' (rowRel_cut (o := 2) (s := 1) r1' (rowRel_cut (o := 3) (s := 1) r2' (rowRel_end (o := 4) (by omega))))⟩
theorem plain : (y0 : Actor) → Actor.wf y0 → (y1 : Turn) → Turn.wf y1 → (y2 : Ref) → Ref.wf y2 → (y3 : ByteArray) → y3.size ≤ maxLen → (y4 : (List Value)) → (y4.length ≤ maxLen ∧ ∀ z0 ∈ y4, Value.wf z0) → (y5 : ByteArray) → y5.size ≤ maxLen → (y6 : Int) → (Lit.int .i64 y6).wf = true → (y7 : (List Int)) → (y7.length ≤ maxLen ∧ ∀ z0 ∈ y7, (Lit.int .i64 z0).wf = true) → (y8 : Reply) → Reply.wf y8 → ∃ N, law24_TurnsCalls N y0 y1 y2 y3 y4 y5 y6 y7 y8 = some true := fun a _ t _ g _ m _ l _ c _ q _ x _ p _ => ⟨3, plain_TurnsCalls a t g m l c q x p⟩
theorem own : ownKnob Try.prog.godebug = none := by kernel_rfl
theorem laidOut : laidOutB Try.prog = true := by kernel_rfl
theorem readable : ((Try.f5.params.toList).all fun t => Try.prog.readableRec t && decide (t < Try.prog.types.size)) = true := by kernel_rfl
theorem contract (H : Type) (enc : TypeId × Go.Value → H) (W : World) (base : Nat) (args : Array Go.Value) (ds gs : List (DataW H)) (before : List MemPlace)
    (hval : ∀ (j : Nat) t v, Try.f5.params[j]? = some t → args[j]? = some v → Go.Value.okWide Try.prog W .any base t v)
    (hW : DataW.Whole enc Try.prog Try.f5.params.toList Rows.turnsCallsSpec.vars false W args.toList ds gs before) :
    Calls Try.prog 5 args W fun e W' => ∃ v, e = .returned v ∧ Rows.turnsCallsSpec.post enc Try.prog Try.f5 false true false false W args v W' := by
  have hW0 := hW
  obtain ⟨p, q, hA0, hV, rfl, hfz, hnd⟩ := hW
  have hA : DataW.TrodAll enc Try.prog W 0 (fun _ => true) true Try.f5.params.toList args.toList ds p := hA0
  rw [Try.params5] at hA hval
  obtain ⟨v0, vs0, d0, ds0, p0, q0, hargs, rfl, rfl, h0, t0⟩ := trodAll_cons hA
  obtain ⟨v1, vs1, d1, ds1, p1, q1, hvs1, rfl, rfl, h1, t1⟩ := trodAll_cons t0
  obtain ⟨v2, vs2, d2, ds2, p2, q2, hvs2, rfl, rfl, h2, t2⟩ := trodAll_cons t1
  obtain ⟨v3, vs3, d3, ds3, p3, q3, hvs3, rfl, rfl, h3, t3⟩ := trodAll_cons t2
  obtain ⟨v4, vs4, d4, ds4, p4, q4, hvs4, rfl, rfl, h4, t4⟩ := trodAll_cons t3
  obtain ⟨v5, vs5, d5, ds5, p5, q5, hvs5, rfl, rfl, h5, t5⟩ := trodAll_cons t4
  obtain ⟨v6, vs6, d6, ds6, p6, q6, hvs6, rfl, rfl, h6, t6⟩ := trodAll_cons t5
  obtain ⟨v7, vs7, d7, ds7, p7, q7, hvs7, rfl, rfl, h7, t7⟩ := trodAll_cons t6
  obtain ⟨v8, vs8, d8, ds8, p8, q8, hvs8, rfl, rfl, h8, t8⟩ := trodAll_cons t7
  obtain ⟨hn1, rfl, rfl⟩ := trodAll_nil t8
  obtain ⟨rfl, rfl⟩ := trodVars_none hV
  have hargs' : args = #[v0, v1, v2, v3, v4, v5, v6, v7, v8] := by
    have : args.toList = [v0, v1, v2, v3, v4, v5, v6, v7, v8] := by rw [hargs, hvs1, hvs2, hvs3, hvs4, hvs5, hvs6, hvs7, hvs8, hn1]
    rw [← Array.toArray_toList (xs := args), this]
  subst hargs'
  obtain ⟨fu0, k0⟩ := h0
  obtain ⟨y0, w0, r0⟩ := opens_26 _ _ _ _ _ _ _ _ _ k0
  obtain ⟨cs0, hv0, _⟩ := okWide_struct Try.underlying26 (hval 0 26 v0 rfl rfl)
  subst hv0
  have g0 := arg_agg r0
  obtain ⟨fu1, k1⟩ := h1
  obtain ⟨y1, w1, r1⟩ := opens_56 _ _ _ _ _ _ _ _ _ k1
  obtain ⟨cs1, hv1, _⟩ := okWide_struct Try.underlying56 (hval 1 56 v1 rfl rfl)
  subst hv1
  have g1 := arg_agg r1
  obtain ⟨fu2, k2⟩ := h2
  obtain ⟨y2, w2, r2⟩ := opens_23 _ _ _ _ _ _ _ _ _ k2
  obtain ⟨cs2, hv2, _⟩ := okWide_struct Try.underlying23 (hval 2 23 v2 rfl rfl)
  subst hv2
  have g2 := arg_agg r2
  obtain ⟨fu3, k3⟩ := h3
  obtain ⟨y3, w3, r3⟩ := (opens_string Try.underlying9) _ _ _ _ _ _ _ _ _ k3
  obtain ⟨n3, hv3⟩ := okWide_string Try.underlying9 (hval 3 9 v3 rfl rfl)
  subst hv3
  have g3 := arg_one rfl r3
  obtain ⟨fu4, k4⟩ := h4
  obtain ⟨y4, w4, r4⟩ := (opens_slice Try.underlying28 cells35 (by decide) opens_35) _ _ _ _ _ _ _ _ _ k4
  obtain ⟨a4, len4, cap4, hv4⟩ := okWide_slice Try.underlying28 (hval 4 28 v4 rfl rfl)
  subst hv4
  have g4 := arg_one rfl r4
  obtain ⟨fu5, k5⟩ := h5
  obtain ⟨y5, w5, r5⟩ := (opens_string Try.underlying9) _ _ _ _ _ _ _ _ _ k5
  obtain ⟨n5, hv5⟩ := okWide_string Try.underlying9 (hval 5 9 v5 rfl rfl)
  subst hv5
  have g5 := arg_one rfl r5
  obtain ⟨fu6, k6⟩ := h6
  obtain ⟨y6, w6, r6⟩ := (opens_int Try.underlying3) _ _ _ _ _ _ _ _ _ k6
  obtain ⟨n6, hv6⟩ := okWide_int Try.underlying3 (hval 6 3 v6 rfl rfl)
  subst hv6
  have g6 := arg_one rfl r6
  obtain ⟨fu7, k7⟩ := h7
  obtain ⟨y7, w7, r7⟩ := (opens_slice Try.underlying27 cells3 (by decide) (opens_int Try.underlying3)) _ _ _ _ _ _ _ _ _ k7
  obtain ⟨a7, len7, cap7, hv7⟩ := okWide_slice Try.underlying27 (hval 7 27 v7 rfl rfl)
  subst hv7
  have g7 := arg_one rfl r7
  obtain ⟨fu8, k8⟩ := h8
  obtain ⟨y8, w8, r8⟩ := opens_37 _ _ _ _ _ _ _ _ _ k8
  obtain ⟨cs8, hv8, _⟩ := okWide_struct Try.underlying37 (hval 8 37 v8 rfl rfl)
  subst hv8
  have g8 := arg_agg r8
  obtain ⟨N, hN⟩ := plain y0 w0 y1 w1 y2 w2 y3 w3 y4 w4 y5 w5 y6 w6 y7 w7 y8 w8
  refine (calls_of_con (us := [_, _, _, _, _, _, _, _, _]) (⟨Try.func5, rfl, by decide, by kernel_rfl⟩ : FunOk Try.prog 5 _ _) (w_law24_TurnsCalls N y0 y1 y2 y3 y4 y5 y6 y7 y8 true hN) rfl (args_cons g0 (args_cons g1 (args_cons g2 (args_cons g3 (args_cons g4 (args_cons g5 (args_cons g6 (args_cons g7 (args_cons g8 (args_nil))))))))))).mono fun e W' he => ?_
  obtain ⟨he, hfr⟩ := he
  subst he
  refine ⟨_, rfl, law_post (tb := 4) laidOut ?_ (by kernel_rfl) Try.underlying4 rfl rfl hW0 hfr⟩
  intro t ht
  have := List.all_eq_true.1 readable t ht
  rw [Bool.and_eq_true, decide_eq_true_eq] at this
  exact this

set_option maxRecDepth 100000 in
theorem lifted (os : Os) (started : os.Started) (H : Type) (enc : TypeId × Go.Value → H) :
    ReturnsInHanded {} Try.checked os 5 .any (Rows.turnsCallsSpec.pre6 enc Try.prog Try.f5 Rows.turnsCallsRow.domain false) (Rows.turnsCallsSpec.post enc Try.prog Try.f5 false true false false) := by
  refine returnsInHanded_of_change (C := Try.checked) own started (by kernel_rfl) Try.func5
    (ChangeSpec.witness6 (enc := enc) (C := Try.checked) false ⟨#[], #[.agg #[.string .empty, .string .empty, .int .i64 0, .slice none 0 0], .agg #[.string .empty, .int .i64 0, .slice none 0 0, .string .empty, .string .empty, .string .empty, .slice none 0 0, .slice none 0 0, .int .i64 0, .int .i64 0, .string .empty, .int .i64 0, .slice none 0 0, .string .empty, .string .empty, .string .empty, .slice none 0 0, .slice none 0 0, .int .i64 0, .bool false, .bool false, .string .empty, .int .i64 0, .slice none 0 0, .int .i64 0, .int .i64 0, .int .i64 0, .string .empty, .slice none 0 0, .slice none 0 0], .agg #[.string .empty, .string .empty], .string .empty, .slice none 0 0, .string .empty, .int .i64 0, .slice none 0 0, .agg #[.string .empty, .int .i64 0, .slice none 0 0, .int .i64 0, .int .i64 0, .int .i64 0, .string .empty, .slice none 0 0, .slice none 0 0]], []⟩ 12 (by kernel_rfl) (by kernel_rfl) (by kernel_rfl) (by kernel_rfl)) ?_
  intro W base args ds gs before hval hW _ _
  exact contract H enc W base args ds gs before hval hW

theorem turnsCalls_holds : Rows.TurnsCallsSaid :=
  OpenClaim.holds_of_wide 5 Try.f5 rfl rfl rfl rfl rfl rfl rfl ⟨rfl, rfl, rfl, rfl, rfl⟩ rfl rfl rfl rfl rfl (by kernel_rfl) Try.func5 (by kernel_rfl)
    (of_decide_eq_true (by kernel_rfl)) (by unfold Func.isWrapper; first | (rw [if_pos (by decide +kernel)]; kernel_rfl) | (rw [if_neg (by decide +kernel)]; exact ⟨rfl, rfl⟩))
    (fun os started H enc _ => lifted os started H enc)
end Go.Proofs.Ytmgpaicldmgckaa
