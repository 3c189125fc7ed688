/- Tables of readings and contracts. No statement. -/
import Derived.Test.YthgcdhclommkcaaM
import Derived.Test.YthgcdhclommkcaaChecked
import Derived.KernelRfl
/- What the kernel reckons of the program. -/
set_option maxHeartbeats 40000000
set_option synthInstance.maxHeartbeats 2000000
set_option synthInstance.maxSize 4000
set_option linter.unusedSimpArgs false
set_option linter.unusedVariables false
set_option maxRecDepth 100000
namespace Go.Proofs.Ythgcdhclommkcaa
open Go Go.Proofs Go.Abs
theorem mix : Try.prog.follows .mixedOrders = true := by kernel_rfl
theorem ti3 : tiOf Try.prog 3 = some { size := 1, agg := false, bytes := 8, zero := [.int .i64 0], eqs := [], kind := .int .i64 } := by kernel_rfl
theorem ti4 : tiOf Try.prog 4 = some { size := 1, agg := false, bytes := 1, zero := [.bool false], eqs := [], kind := .bool } := by kernel_rfl
theorem ti5 : tiOf Try.prog 5 = some { size := 1, agg := false, bytes := 1, zero := [.int .u8 0], eqs := [], kind := .int .u8 } := by kernel_rfl
theorem ti9 : tiOf Try.prog 9 = some { size := 1, agg := false, bytes := 16, zero := [.string ⟨#[]⟩], eqs := [], kind := .str } := by kernel_rfl
theorem ti22 : tiOf Try.prog 22 = some { size := 1, agg := false, bytes := 24, zero := [.slice none 0 0], eqs := [], kind := .slice 57 6 } := by kernel_rfl
theorem ti24 : tiOf Try.prog 24 = some { size := 3, agg := true, bytes := 48, zero := [.string ⟨#[]⟩, .int .i64 0, .slice none 0 0], eqs := [], kind := .struct [(0, 9), (1, 3), (2, 22)] } := by kernel_rfl
theorem ti25 : tiOf Try.prog 25 = some { size := 1, agg := false, bytes := 24, zero := [.slice none 0 0], eqs := [], kind := .slice 71 4 } := by kernel_rfl
theorem ti26 : tiOf Try.prog 26 = some { size := 1, agg := false, bytes := 24, zero := [.slice none 0 0], eqs := [], kind := .slice 3 1 } := by kernel_rfl
theorem ti27 : tiOf Try.prog 27 = some { size := 1, agg := false, bytes := 8, zero := [.int .i64 0], eqs := [], kind := .int .i64 } := by kernel_rfl
theorem ti28 : tiOf Try.prog 28 = some { size := 1, agg := false, bytes := 24, zero := [.slice none 0 0], eqs := [], kind := .slice 9 1 } := by kernel_rfl
theorem ti30 : tiOf Try.prog 30 = some { size := 5, agg := true, bytes := 80, zero := [.int .i64 0, .int .i64 0, .string ⟨#[]⟩, .slice none 0 0, .slice none 0 0], eqs := [], kind := .struct [(0, 3), (1, 3), (2, 9), (3, 26), (4, 28)] } := by kernel_rfl
theorem ti32 : tiOf Try.prog 32 = some { size := 9, agg := true, bytes := 136, zero := [.string ⟨#[]⟩, .int .i64 0, .slice none 0 0, .int .i64 0, .int .i64 0, .int .i64 0, .string ⟨#[]⟩, .slice none 0 0, .slice none 0 0], eqs := [], kind := .struct [(0, 9), (1, 3), (2, 26), (3, 27), (4, 30)] } := by kernel_rfl
theorem ti34 : tiOf Try.prog 34 = some { size := 5, agg := true, bytes := 64, zero := [.string ⟨#[]⟩, .int .i64 0, .int .i64 0, .bool false, .slice none 0 0], eqs := [], kind := .struct [(0, 9), (1, 3), (2, 3), (3, 4), (4, 25)] } := by kernel_rfl
theorem ti42 : tiOf Try.prog 42 = some { size := 1, agg := false, bytes := 24, zero := [.slice none 0 0], eqs := [], kind := .slice 44 3 } := by kernel_rfl
theorem ti44 : tiOf Try.prog 44 = some { size := 3, agg := true, bytes := 3, zero := [.int .u8 0, .int .u8 0, .int .u8 0], eqs := [.int, .int, .int], kind := .struct [(0, 5), (1, 5), (2, 5)] } := by kernel_rfl
theorem ti53 : tiOf Try.prog 53 = some { size := 1, agg := false, bytes := 24, zero := [.slice none 0 0], eqs := [], kind := .slice 34 5 } := by kernel_rfl
theorem ti57 : tiOf Try.prog 57 = some { size := 6, agg := true, bytes := 72, zero := [.string ⟨#[]⟩, .int .i64 0, .int .i64 0, .bool false, .slice none 0 0, .int .i64 0], eqs := [], kind := .struct [(0, 34), (5, 3)] } := by kernel_rfl
theorem ti68 : tiOf Try.prog 68 = some { size := 2, agg := true, bytes := 32, zero := [.string ⟨#[]⟩, .string ⟨#[]⟩], eqs := [.str, .str], kind := .struct [(0, 9), (1, 9)] } := by kernel_rfl
theorem ti69 : tiOf Try.prog 69 = some { size := 1, agg := false, bytes := 24, zero := [.slice none 0 0], eqs := [], kind := .slice 30 5 } := by kernel_rfl
theorem ti71 : tiOf Try.prog 71 = some { size := 4, agg := true, bytes := 72, zero := [.string ⟨#[]⟩, .string ⟨#[]⟩, .string ⟨#[]⟩, .slice none 0 0], eqs := [], kind := .struct [(0, 68), (2, 9), (3, 69)] } := by kernel_rfl
theorem okf0 (l : List Int) : Abs.frzRows (l.map (rowI .i64)) = l.map (rowI .i64) := RowOk.frzRows (rowI_ok .i64) l
theorem oka0 (l : List Int) : (l.map (rowI .i64)).all (fun r => r.all C.cellOk) = true := RowOk.all (rowI_ok .i64) l
theorem okp0 (l : List Int) : (l.map (rowI .i64)).all (fun r => r.all Abs.plainCell) = true := RowOk.allPlain (rowI_ok .i64) l
theorem okd0 (l : List Int) : decRows (dec1 (decI .i64)) (l.map (rowI .i64)) = some l := decRows_map (dec1_rowI .i64) l
theorem okf1 (l : List ActorCall) : Abs.frzRows (l.map ActorCall.row) = l.map ActorCall.row := RowOk.frzRows ActorCall.row_ok l
theorem oka1 (l : List ActorCall) : (l.map ActorCall.row).all (fun r => r.all C.cellOk) = true := RowOk.all ActorCall.row_ok l
theorem okp1 (l : List ActorCall) : (l.map ActorCall.row).all (fun r => r.all Abs.plainCell) = true := RowOk.allPlain ActorCall.row_ok l
theorem okd1 (l : List ActorCall) : decRows ActorCall.dec (l.map ActorCall.row) = some l := decRows_map ActorCall.dec_row l
theorem okf2 (l : List PendingSubmission) : Abs.frzRows (l.map PendingSubmission.row) = l.map PendingSubmission.row := RowOk.frzRows PendingSubmission.row_ok l
theorem oka2 (l : List PendingSubmission) : (l.map PendingSubmission.row).all (fun r => r.all C.cellOk) = true := RowOk.all PendingSubmission.row_ok l
theorem okp2 (l : List PendingSubmission) : (l.map PendingSubmission.row).all (fun r => r.all Abs.plainCell) = true := RowOk.allPlain PendingSubmission.row_ok l
theorem okd2 (l : List PendingSubmission) : decRows PendingSubmission.dec (l.map PendingSubmission.row) = some l := decRows_map PendingSubmission.dec_row l
theorem okf3 (l : List Submission) : Abs.frzRows (l.map Submission.row) = l.map Submission.row := RowOk.frzRows Submission.row_ok l
theorem oka3 (l : List Submission) : (l.map Submission.row).all (fun r => r.all C.cellOk) = true := RowOk.all Submission.row_ok l
theorem okp3 (l : List Submission) : (l.map Submission.row).all (fun r => r.all Abs.plainCell) = true := RowOk.allPlain Submission.row_ok l
theorem okd3 (l : List Submission) : decRows Submission.dec (l.map Submission.row) = some l := decRows_map Submission.dec_row l
theorem okf4 (l : List Value) : Abs.frzRows (l.map Value.row) = l.map Value.row := RowOk.frzRows Value.row_ok l
theorem oka4 (l : List Value) : (l.map Value.row).all (fun r => r.all C.cellOk) = true := RowOk.all Value.row_ok l
theorem okp4 (l : List Value) : (l.map Value.row).all (fun r => r.all Abs.plainCell) = true := RowOk.allPlain Value.row_ok l
theorem okd4 (l : List Value) : decRows Value.dec (l.map Value.row) = some l := decRows_map Value.dec_row l
theorem okf5 (l : List actorgridlaw34_Act) : Abs.frzRows (l.map actorgridlaw34_Act.row) = l.map actorgridlaw34_Act.row := RowOk.frzRows actorgridlaw34_Act.row_ok l
theorem oka5 (l : List actorgridlaw34_Act) : (l.map actorgridlaw34_Act.row).all (fun r => r.all C.cellOk) = true := RowOk.all actorgridlaw34_Act.row_ok l
theorem okp5 (l : List actorgridlaw34_Act) : (l.map actorgridlaw34_Act.row).all (fun r => r.all Abs.plainCell) = true := RowOk.allPlain actorgridlaw34_Act.row_ok l
theorem okd5 (l : List actorgridlaw34_Act) : decRows actorgridlaw34_Act.dec (l.map actorgridlaw34_Act.row) = some l := decRows_map actorgridlaw34_Act.dec_row l
theorem okf6 (l : List ByteArray) : Abs.frzRows (l.map rowS) = l.map rowS := RowOk.frzRows rowS_ok l
theorem oka6 (l : List ByteArray) : (l.map rowS).all (fun r => r.all C.cellOk) = true := RowOk.all rowS_ok l
theorem okp6 (l : List ByteArray) : (l.map rowS).all (fun r => r.all Abs.plainCell) = true := RowOk.allPlain rowS_ok l
theorem okd6 (l : List ByteArray) : decRows (dec1 decS) (l.map rowS) = some l := decRows_map dec1_rowS l
attribute [go_sem] ti3 ti4 ti5 ti9 ti22 ti24 ti25 ti26 ti27 ti28 ti30 ti32
attribute [go_sem] ti34 ti42 ti44 ti53 ti57 ti68 ti69 ti71 Ref.row Ref.eta Ref.dec Ref.decA
attribute [go_sem] Ref.dec_row Value.row Value.eta Value.dec Value.decA Value.dec_row ActorCall.row ActorCall.eta ActorCall.dec ActorCall.decA ActorCall.dec_row Submission.row
attribute [go_sem] Submission.eta Submission.dec Submission.decA Submission.dec_row PendingSubmission.row PendingSubmission.eta PendingSubmission.dec PendingSubmission.decA PendingSubmission.dec_row Session.row Session.eta Session.dec
attribute [go_sem] Session.decA Session.dec_row Reply.row Reply.eta Reply.dec Reply.decA Reply.dec_row actorgridlaw34_Act.row actorgridlaw34_Act.eta actorgridlaw34_Act.dec actorgridlaw34_Act.decA actorgridlaw34_Act.dec_row
attribute [go_sem] rowI_eq rowB_eq rowS_eq rowL_eq okf0 oka0 okp0 okd0 okf1 oka1 okp1 okd1
attribute [go_sem] okf2 oka2 okp2 okd2 okf3 oka3 okp3 okd3 okf4 oka4 okp4 okd4
attribute [go_sem] okf5 oka5 okp5 okd5 okf6 oka6 okp6 okd6
end Go.Proofs.Ythgcdhclommkcaa
