/- Tables of readings and contracts. No statement. -/
import Derived.Test.YtjpeiibeemmdfaaM
import Derived.Test.YtjpeiibeemmdfaaChecked
import Derived.KernelRfl
/- What the kernel reckons of the program. -/
set_option maxHeartbeats 40000000
set_option synthInstance.maxHeartbeats 2000000
set_option synthInstance.maxSize 4000
set_option linter.unusedSimpArgs false
set_option linter.unusedVariables false
set_option maxRecDepth 100000
namespace Go.Proofs.Ytjpeiibeemmdfaa
open Go Go.Proofs Go.Abs
theorem mix : Try.prog.follows .mixedOrders = true := by kernel_rfl
theorem ti3 : tiOf Try.prog 3 = some { size := 1, agg := false, bytes := 8, zero := [.int .i64 0], eqs := [], kind := .int .i64 } := by kernel_rfl
theorem ti4 : tiOf Try.prog 4 = some { size := 1, agg := false, bytes := 1, zero := [.bool false], eqs := [], kind := .bool } := by kernel_rfl
theorem ti5 : tiOf Try.prog 5 = some { size := 1, agg := false, bytes := 1, zero := [.int .u8 0], eqs := [], kind := .int .u8 } := by kernel_rfl
theorem ti9 : tiOf Try.prog 9 = some { size := 1, agg := false, bytes := 16, zero := [.string ⟨#[]⟩], eqs := [], kind := .str } := by kernel_rfl
theorem ti22 : tiOf Try.prog 22 = some { size := 1, agg := false, bytes := 24, zero := [.slice none 0 0], eqs := [], kind := .slice 3 1 } := by kernel_rfl
theorem ti36 : tiOf Try.prog 36 = some { size := 1, agg := false, bytes := 8, zero := [.int .u64 0], eqs := [], kind := .int .u64 } := by kernel_rfl
theorem ti50 : tiOf Try.prog 50 = some { size := 1, agg := false, bytes := 8, zero := [.int .u64 0], eqs := [], kind := .int .u64 } := by kernel_rfl
theorem ti71 : tiOf Try.prog 71 = some { size := 3, agg := true, bytes := 24, zero := [.int .u64 0, .int .u64 0, .int .u64 0], eqs := [], kind := .arr 3 50 1 } := by kernel_rfl
theorem ti73 : tiOf Try.prog 73 = some { size := 2, agg := true, bytes := 16, zero := [.int .u64 0, .int .u64 0], eqs := [], kind := .arr 2 36 1 } := by kernel_rfl
theorem okf0 (l : List Int) : Abs.frzRows (l.map (rowI .i64)) = l.map (rowI .i64) := RowOk.frzRows (rowI_ok .i64) l
theorem oka0 (l : List Int) : (l.map (rowI .i64)).all (fun r => r.all C.cellOk) = true := RowOk.all (rowI_ok .i64) l
theorem okp0 (l : List Int) : (l.map (rowI .i64)).all (fun r => r.all Abs.plainCell) = true := RowOk.allPlain (rowI_ok .i64) l
theorem okd0 (l : List Int) : decRows (dec1 (decI .i64)) (l.map (rowI .i64)) = some l := decRows_map (dec1_rowI .i64) l
attribute [go_sem] ti3 ti4 ti5 ti9 ti22 ti36 ti50 ti71 ti73 Arr3_u64.row Arr3_u64.eta Arr3_u64.dec
attribute [go_sem] Arr3_u64.decA Arr3_u64.dec_row Arr2_u64.row Arr2_u64.eta Arr2_u64.dec Arr2_u64.decA Arr2_u64.dec_row rowI_eq rowB_eq rowS_eq rowL_eq okf0
attribute [go_sem] oka0 okp0 okd0
end Go.Proofs.Ytjpeiibeemmdfaa
