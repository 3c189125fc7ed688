/- Tables of readings and contracts. No statement. -/
import Derived.Test.YthafflhaoplpjaaM
import Derived.Test.YthafflhaoplpjaaChecked
import Derived.KernelRfl
/- What the kernel reckons of the program. -/
set_option maxHeartbeats 40000000
set_option synthInstance.maxHeartbeats 2000000
set_option synthInstance.maxSize 4000
set_option linter.unusedSimpArgs false
set_option linter.unusedVariables false
set_option maxRecDepth 100000
namespace Go.Proofs.Ythafflhaoplpjaa
open Go Go.Proofs Go.Abs
theorem mix : Try.prog.follows .mixedOrders = true := by kernel_rfl
theorem ti3 : tiOf Try.prog 3 = some { size := 1, agg := false, bytes := 8, zero := [.int .i64 0], eqs := [], kind := .int .i64 } := by kernel_rfl
theorem ti4 : tiOf Try.prog 4 = some { size := 1, agg := false, bytes := 1, zero := [.bool false], eqs := [], kind := .bool } := by kernel_rfl
theorem ti5 : tiOf Try.prog 5 = some { size := 1, agg := false, bytes := 1, zero := [.int .u8 0], eqs := [], kind := .int .u8 } := by kernel_rfl
theorem ti9 : tiOf Try.prog 9 = some { size := 1, agg := false, bytes := 16, zero := [.string ⟨#[]⟩], eqs := [], kind := .str } := by kernel_rfl
theorem ti22 : tiOf Try.prog 22 = some { size := 1, agg := false, bytes := 24, zero := [.slice none 0 0], eqs := [], kind := .slice 26 3 } := by kernel_rfl
theorem ti24 : tiOf Try.prog 24 = some { size := 1, agg := false, bytes := 24, zero := [.slice none 0 0], eqs := [], kind := .slice 46 4 } := by kernel_rfl
theorem ti26 : tiOf Try.prog 26 = some { size := 3, agg := true, bytes := 3, zero := [.int .u8 0, .int .u8 0, .int .u8 0], eqs := [.int, .int, .int], kind := .struct [(0, 5), (1, 5), (2, 5)] } := by kernel_rfl
theorem ti28 : tiOf Try.prog 28 = some { size := 2, agg := true, bytes := 32, zero := [.string ⟨#[]⟩, .string ⟨#[]⟩], eqs := [.str, .str], kind := .struct [(0, 9), (1, 9)] } := by kernel_rfl
theorem ti30 : tiOf Try.prog 30 = some { size := 1, agg := false, bytes := 8, zero := [.int .i64 0], eqs := [], kind := .int .i64 } := by kernel_rfl
theorem ti34 : tiOf Try.prog 34 = some { size := 1, agg := false, bytes := 24, zero := [.slice none 0 0], eqs := [], kind := .slice 63 3 } := by kernel_rfl
theorem ti41 : tiOf Try.prog 41 = some { size := 1, agg := false, bytes := 24, zero := [.slice none 0 0], eqs := [], kind := .slice 43 2 } := by kernel_rfl
theorem ti43 : tiOf Try.prog 43 = some { size := 2, agg := true, bytes := 16, zero := [.int .i64 0, .int .i64 0], eqs := [.int, .int], kind := .arr 2 3 1 } := by kernel_rfl
theorem ti44 : tiOf Try.prog 44 = some { size := 1, agg := false, bytes := 24, zero := [.slice none 0 0], eqs := [], kind := .slice 3 1 } := by kernel_rfl
theorem ti46 : tiOf Try.prog 46 = some { size := 4, agg := true, bytes := 64, zero := [.string ⟨#[]⟩, .string ⟨#[]⟩, .int .i64 0, .slice none 0 0], eqs := [], kind := .struct [(0, 28), (2, 3), (3, 44)] } := by kernel_rfl
theorem ti63 : tiOf Try.prog 63 = some { size := 3, agg := true, bytes := 40, zero := [.string ⟨#[]⟩, .string ⟨#[]⟩, .int .i64 0], eqs := [.str, .str, .int], kind := .struct [(0, 28), (2, 3)] } := by kernel_rfl
theorem ti76 : tiOf Try.prog 76 = some { size := 1, agg := false, bytes := 8, zero := [.int .u64 0], eqs := [], kind := .int .u64 } := by kernel_rfl
theorem ti96 : tiOf Try.prog 96 = some { size := 1, agg := false, bytes := 8, zero := [.int .u64 0], eqs := [], kind := .int .u64 } := by kernel_rfl
theorem okf0 (l : List Int) : Abs.frzRows (l.map (rowI .i64)) = l.map (rowI .i64) := RowOk.frzRows (rowI_ok .i64) l
theorem oka0 (l : List Int) : (l.map (rowI .i64)).all (fun r => r.all C.cellOk) = true := RowOk.all (rowI_ok .i64) l
theorem okp0 (l : List Int) : (l.map (rowI .i64)).all (fun r => r.all Abs.plainCell) = true := RowOk.allPlain (rowI_ok .i64) l
theorem okd0 (l : List Int) : decRows (dec1 (decI .i64)) (l.map (rowI .i64)) = some l := decRows_map (dec1_rowI .i64) l
theorem okf1 (l : List Arr2_i64) : Abs.frzRows (l.map Arr2_i64.row) = l.map Arr2_i64.row := RowOk.frzRows Arr2_i64.row_ok l
theorem oka1 (l : List Arr2_i64) : (l.map Arr2_i64.row).all (fun r => r.all C.cellOk) = true := RowOk.all Arr2_i64.row_ok l
theorem okp1 (l : List Arr2_i64) : (l.map Arr2_i64.row).all (fun r => r.all Abs.plainCell) = true := RowOk.allPlain Arr2_i64.row_ok l
theorem okd1 (l : List Arr2_i64) : decRows Arr2_i64.dec (l.map Arr2_i64.row) = some l := decRows_map Arr2_i64.dec_row l
theorem okf2 (l : List Lock) : Abs.frzRows (l.map Lock.row) = l.map Lock.row := RowOk.frzRows Lock.row_ok l
theorem oka2 (l : List Lock) : (l.map Lock.row).all (fun r => r.all C.cellOk) = true := RowOk.all Lock.row_ok l
theorem okp2 (l : List Lock) : (l.map Lock.row).all (fun r => r.all Abs.plainCell) = true := RowOk.allPlain Lock.row_ok l
theorem okd2 (l : List Lock) : decRows Lock.dec (l.map Lock.row) = some l := decRows_map Lock.dec_row l
theorem okf3 (l : List LockGrant) : Abs.frzRows (l.map LockGrant.row) = l.map LockGrant.row := RowOk.frzRows LockGrant.row_ok l
theorem oka3 (l : List LockGrant) : (l.map LockGrant.row).all (fun r => r.all C.cellOk) = true := RowOk.all LockGrant.row_ok l
theorem okp3 (l : List LockGrant) : (l.map LockGrant.row).all (fun r => r.all Abs.plainCell) = true := RowOk.allPlain LockGrant.row_ok l
theorem okd3 (l : List LockGrant) : decRows LockGrant.dec (l.map LockGrant.row) = some l := decRows_map LockGrant.dec_row l
theorem okf4 (l : List actorgridlaw31_Act) : Abs.frzRows (l.map actorgridlaw31_Act.row) = l.map actorgridlaw31_Act.row := RowOk.frzRows actorgridlaw31_Act.row_ok l
theorem oka4 (l : List actorgridlaw31_Act) : (l.map actorgridlaw31_Act.row).all (fun r => r.all C.cellOk) = true := RowOk.all actorgridlaw31_Act.row_ok l
theorem okp4 (l : List actorgridlaw31_Act) : (l.map actorgridlaw31_Act.row).all (fun r => r.all Abs.plainCell) = true := RowOk.allPlain actorgridlaw31_Act.row_ok l
theorem okd4 (l : List actorgridlaw31_Act) : decRows actorgridlaw31_Act.dec (l.map actorgridlaw31_Act.row) = some l := decRows_map actorgridlaw31_Act.dec_row l
attribute [go_sem] ti3 ti4 ti5 ti9 ti22 ti24 ti26 ti28 ti30 ti34 ti41 ti43
attribute [go_sem] ti44 ti46 ti63 ti76 ti96 actorgridlaw31_Act.row actorgridlaw31_Act.eta actorgridlaw31_Act.dec actorgridlaw31_Act.decA actorgridlaw31_Act.dec_row Ref.row Ref.eta
attribute [go_sem] Ref.dec Ref.decA Ref.dec_row Lock.rowD Lock.row Lock.eta Lock.dec Lock.decA Lock.dec_row LockGrant.row LockGrant.eta LockGrant.dec
attribute [go_sem] LockGrant.decA LockGrant.dec_row Arr2_i64.row Arr2_i64.eta Arr2_i64.dec Arr2_i64.decA Arr2_i64.dec_row rowI_eq rowB_eq rowS_eq rowL_eq okf0
attribute [go_sem] oka0 okp0 okd0 okf1 oka1 okp1 okd1 okf2 oka2 okp2 okd2 okf3
attribute [go_sem] oka3 okp3 okd3 okf4 oka4 okp4 okd4
end Go.Proofs.Ythafflhaoplpjaa
