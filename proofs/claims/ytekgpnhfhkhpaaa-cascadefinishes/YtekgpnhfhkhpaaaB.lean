/- Tables of readings and contracts. No statement. -/
import Derived.Test.YtekgpnhfhkhpaaaM
import Derived.Test.YtekgpnhfhkhpaaaChecked
import Derived.KernelRfl
/- What the kernel reckons of the program. -/
set_option maxHeartbeats 40000000
set_option synthInstance.maxHeartbeats 2000000
set_option synthInstance.maxSize 4000
set_option linter.unusedSimpArgs false
set_option linter.unusedVariables false
set_option maxRecDepth 100000
namespace Go.Proofs.Ytekgpnhfhkhpaaa
open Go Go.Proofs Go.Abs
theorem mix : Try.prog.follows .mixedOrders = true := by kernel_rfl
theorem ti3 : tiOf Try.prog 3 = some { size := 1, agg := false, bytes := 8, zero := [.int .i64 0], eqs := [], kind := .int .i64 } := by kernel_rfl
theorem ti4 : tiOf Try.prog 4 = some { size := 1, agg := false, bytes := 1, zero := [.bool false], eqs := [], kind := .bool } := by kernel_rfl
theorem ti5 : tiOf Try.prog 5 = some { size := 1, agg := false, bytes := 1, zero := [.int .u8 0], eqs := [], kind := .int .u8 } := by kernel_rfl
theorem ti9 : tiOf Try.prog 9 = some { size := 1, agg := false, bytes := 16, zero := [.string ⟨#[]⟩], eqs := [], kind := .str } := by kernel_rfl
theorem ti22 : tiOf Try.prog 22 = some { size := 1, agg := false, bytes := 24, zero := [.slice none 0 0], eqs := [], kind := .slice 55 3 } := by kernel_rfl
theorem ti24 : tiOf Try.prog 24 = some { size := 1, agg := false, bytes := 24, zero := [.slice none 0 0], eqs := [], kind := .slice 29 2 } := by kernel_rfl
theorem ti26 : tiOf Try.prog 26 = some { size := 1, agg := false, bytes := 24, zero := [.slice none 0 0], eqs := [], kind := .slice 36 3 } := by kernel_rfl
theorem ti28 : tiOf Try.prog 28 = some { size := 1, agg := false, bytes := 24, zero := [.slice none 0 0], eqs := [], kind := .slice 3 1 } := by kernel_rfl
theorem ti29 : tiOf Try.prog 29 = some { size := 2, agg := true, bytes := 16, zero := [.int .i64 0, .int .i64 0], eqs := [.int, .int], kind := .arr 2 3 1 } := by kernel_rfl
theorem ti36 : tiOf Try.prog 36 = some { size := 3, agg := true, bytes := 24, zero := [.int .i64 0, .int .i64 0, .int .i64 0], eqs := [.int, .int, .int], kind := .struct [(0, 3), (1, 3), (2, 3)] } := by kernel_rfl
theorem ti47 : tiOf Try.prog 47 = some { size := 1, agg := false, bytes := 24, zero := [.slice none 0 0], eqs := [], kind := .slice 72 2 } := by kernel_rfl
theorem ti49 : tiOf Try.prog 49 = some { size := 6, agg := true, bytes := 144, zero := [.slice none 0 0, .slice none 0 0, .slice none 0 0, .slice none 0 0, .slice none 0 0, .slice none 0 0], eqs := [], kind := .struct [(0, 47), (1, 24), (2, 28), (3, 28), (4, 28), (5, 24)] } := by kernel_rfl
theorem ti55 : tiOf Try.prog 55 = some { size := 3, agg := true, bytes := 3, zero := [.int .u8 0, .int .u8 0, .int .u8 0], eqs := [.int, .int, .int], kind := .struct [(0, 5), (1, 5), (2, 5)] } := by kernel_rfl
theorem ti69 : tiOf Try.prog 69 = some { size := 1, agg := false, bytes := 8, zero := [.int .u64 0], eqs := [], kind := .int .u64 } := by kernel_rfl
theorem ti72 : tiOf Try.prog 72 = some { size := 2, agg := true, bytes := 32, zero := [.int .i64 0, .slice none 0 0], eqs := [], kind := .struct [(0, 3), (1, 28)] } := by kernel_rfl
theorem ti86 : tiOf Try.prog 86 = some { size := 1, agg := false, bytes := 8, zero := [.int .u64 0], eqs := [], kind := .int .u64 } := by kernel_rfl
theorem okf0 (l : List Int) : Abs.frzRows (l.map (rowI .i64)) = l.map (rowI .i64) := RowOk.frzRows (rowI_ok .i64) l
theorem oka0 (l : List Int) : (l.map (rowI .i64)).all (fun r => r.all C.cellOk) = true := RowOk.all (rowI_ok .i64) l
theorem okp0 (l : List Int) : (l.map (rowI .i64)).all (fun r => r.all Abs.plainCell) = true := RowOk.allPlain (rowI_ok .i64) l
theorem okd0 (l : List Int) : decRows (dec1 (decI .i64)) (l.map (rowI .i64)) = some l := decRows_map (dec1_rowI .i64) l
theorem okf1 (l : List Arr2_i64) : Abs.frzRows (l.map Arr2_i64.row) = l.map Arr2_i64.row := RowOk.frzRows Arr2_i64.row_ok l
theorem oka1 (l : List Arr2_i64) : (l.map Arr2_i64.row).all (fun r => r.all C.cellOk) = true := RowOk.all Arr2_i64.row_ok l
theorem okp1 (l : List Arr2_i64) : (l.map Arr2_i64.row).all (fun r => r.all Abs.plainCell) = true := RowOk.allPlain Arr2_i64.row_ok l
theorem okd1 (l : List Arr2_i64) : decRows Arr2_i64.dec (l.map Arr2_i64.row) = some l := decRows_map Arr2_i64.dec_row l
theorem okf2 (l : List TxnEvent) : Abs.frzRows (l.map TxnEvent.row) = l.map TxnEvent.row := RowOk.frzRows TxnEvent.row_ok l
theorem oka2 (l : List TxnEvent) : (l.map TxnEvent.row).all (fun r => r.all C.cellOk) = true := RowOk.all TxnEvent.row_ok l
theorem okp2 (l : List TxnEvent) : (l.map TxnEvent.row).all (fun r => r.all Abs.plainCell) = true := RowOk.allPlain TxnEvent.row_ok l
theorem okd2 (l : List TxnEvent) : decRows TxnEvent.dec (l.map TxnEvent.row) = some l := decRows_map TxnEvent.dec_row l
theorem okf3 (l : List actorgridlaw33_Act) : Abs.frzRows (l.map actorgridlaw33_Act.row) = l.map actorgridlaw33_Act.row := RowOk.frzRows actorgridlaw33_Act.row_ok l
theorem oka3 (l : List actorgridlaw33_Act) : (l.map actorgridlaw33_Act.row).all (fun r => r.all C.cellOk) = true := RowOk.all actorgridlaw33_Act.row_ok l
theorem okp3 (l : List actorgridlaw33_Act) : (l.map actorgridlaw33_Act.row).all (fun r => r.all Abs.plainCell) = true := RowOk.allPlain actorgridlaw33_Act.row_ok l
theorem okd3 (l : List actorgridlaw33_Act) : decRows actorgridlaw33_Act.dec (l.map actorgridlaw33_Act.row) = some l := decRows_map actorgridlaw33_Act.dec_row l
theorem okf4 (l : List cascade_stack) : Abs.frzRows (l.map cascade_stack.row) = l.map cascade_stack.row := RowOk.frzRows cascade_stack.row_ok l
theorem oka4 (l : List cascade_stack) : (l.map cascade_stack.row).all (fun r => r.all C.cellOk) = true := RowOk.all cascade_stack.row_ok l
theorem okp4 (l : List cascade_stack) : (l.map cascade_stack.row).all (fun r => r.all Abs.plainCell) = true := RowOk.allPlain cascade_stack.row_ok l
theorem okd4 (l : List cascade_stack) : decRows cascade_stack.dec (l.map cascade_stack.row) = some l := decRows_map cascade_stack.dec_row l
theorem oke3 (l : List cascade_stack) : decRows cascade_stack.decE (l.map cascade_stack.rowD) = some l := decRows_map cascade_stack.decE_rowD l
theorem okg3 (l : List cascade_stack) : decRows cascade_stack.dec (l.map cascade_stack.rowD) = some l := decRows_map cascade_stack.dec_rowD l
attribute [go_sem] ti3 ti4 ti5 ti9 ti22 ti24 ti26 ti28 ti29 ti36 ti47 ti49
attribute [go_sem] ti55 ti69 ti72 ti86 actorgridlaw33_Act.row actorgridlaw33_Act.eta actorgridlaw33_Act.dec actorgridlaw33_Act.decA actorgridlaw33_Act.dec_row Arr2_i64.row Arr2_i64.eta Arr2_i64.dec
attribute [go_sem] Arr2_i64.decA Arr2_i64.dec_row TxnEvent.row TxnEvent.eta TxnEvent.dec TxnEvent.decA TxnEvent.dec_row cascade_stack.rowD cascade_stack.dec_rowD cascade_stack.decE cascade_stack.decE_rowD cascade_stack.row
attribute [go_sem] cascade_stack.eta cascade_stack.dec cascade_stack.decA cascade_stack.dec_row cascade_state.rowD cascade_state.dec_rowD cascade_state.decE cascade_state.decE_rowD cascade_state.row cascade_state.eta cascade_state.dec cascade_state.decA
attribute [go_sem] cascade_state.dec_row rowI_eq rowB_eq rowS_eq rowL_eq okf0 oka0 okp0 okd0 okf1 oka1 okp1
attribute [go_sem] okd1 okf2 oka2 okp2 okd2 okf3 oka3 okp3 okd3 okf4 oka4 okp4
attribute [go_sem] okd4 oke3 okg3
end Go.Proofs.Ytekgpnhfhkhpaaa
