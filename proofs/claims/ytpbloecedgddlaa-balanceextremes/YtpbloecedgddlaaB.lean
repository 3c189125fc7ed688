/- Tables of readings and contracts. No statement. -/
import Derived.Test.YtpbloecedgddlaaM
import Derived.Test.YtpbloecedgddlaaChecked
import Derived.KernelRfl
/- What the kernel reckons of the program. -/
set_option linter.unusedSimpArgs false
set_option linter.unusedVariables false
set_option maxRecDepth 100000
namespace Go.Proofs.Ytpbloecedgddlaa
open Go Go.Proofs Go.Abs
theorem mix : Try.prog.follows .mixedOrders = true := by kernel_rfl
theorem ti3 : tiOf Try.prog 3 = some { size := 1, agg := false, bytes := 8, zero := [.int .i64 0], eqs := [], kind := .int .i64 } := by kernel_rfl
theorem ti4 : tiOf Try.prog 4 = some { size := 1, agg := false, bytes := 1, zero := [.bool false], eqs := [], kind := .bool } := by kernel_rfl
theorem ti22 : tiOf Try.prog 22 = some { size := 1, agg := false, bytes := 24, zero := [.slice none 0 0], eqs := [], kind := .slice 40 2 } := by kernel_rfl
theorem ti23 : tiOf Try.prog 23 = some { size := 1, agg := false, bytes := 24, zero := [.slice none 0 0], eqs := [], kind := .slice 43 2 } := by kernel_rfl
theorem ti25 : tiOf Try.prog 25 = some { size := 1, agg := false, bytes := 8, zero := [.int .i64 0], eqs := [], kind := .int .i64 } := by kernel_rfl
theorem ti36 : tiOf Try.prog 36 = some { size := 1, agg := false, bytes := 24, zero := [.slice none 0 0], eqs := [], kind := .slice 41 1 } := by kernel_rfl
theorem ti40 : tiOf Try.prog 40 = some { size := 2, agg := true, bytes := 16, zero := [.int .i64 0, .int .i64 0], eqs := [.int, .int], kind := .struct [(0, 3), (1, 3)] } := by kernel_rfl
theorem ti41 : tiOf Try.prog 41 = some { size := 1, agg := false, bytes := 2, zero := [.int .u16 0], eqs := [], kind := .int .u16 } := by kernel_rfl
theorem ti43 : tiOf Try.prog 43 = some { size := 2, agg := true, bytes := 16, zero := [.int .i64 0, .int .i64 0], eqs := [.int, .int], kind := .struct [(0, 3), (1, 3)] } := by kernel_rfl
theorem ti50 : tiOf Try.prog 50 = some { size := 1, agg := false, bytes := 24, zero := [.slice none 0 0], eqs := [], kind := .slice 3 1 } := by kernel_rfl
theorem okf0 (l : List Int) : Abs.frzRows (l.map (rowI .i64)) = l.map (rowI .i64) := RowOk.frzRows (rowI_ok .i64) l
theorem oka0 (l : List Int) : (l.map (rowI .i64)).all (fun r => r.all C.cellOk) = true := RowOk.all (rowI_ok .i64) l
theorem okp0 (l : List Int) : (l.map (rowI .i64)).all (fun r => r.all Abs.plainCell) = true := RowOk.allPlain (rowI_ok .i64) l
theorem okd0 (l : List Int) : decRows (dec1 (decI .i64)) (l.map (rowI .i64)) = some l := decRows_map (dec1_rowI .i64) l
theorem okf1 (l : List Int) : Abs.frzRows (l.map (rowI .u16)) = l.map (rowI .u16) := RowOk.frzRows (rowI_ok .u16) l
theorem oka1 (l : List Int) : (l.map (rowI .u16)).all (fun r => r.all C.cellOk) = true := RowOk.all (rowI_ok .u16) l
theorem okp1 (l : List Int) : (l.map (rowI .u16)).all (fun r => r.all Abs.plainCell) = true := RowOk.allPlain (rowI_ok .u16) l
theorem okd1 (l : List Int) : decRows (dec1 (decI .u16)) (l.map (rowI .u16)) = some l := decRows_map (dec1_rowI .u16) l
theorem okf2 (l : List Load) : Abs.frzRows (l.map Load.row) = l.map Load.row := RowOk.frzRows Load.row_ok l
theorem oka2 (l : List Load) : (l.map Load.row).all (fun r => r.all C.cellOk) = true := RowOk.all Load.row_ok l
theorem okp2 (l : List Load) : (l.map Load.row).all (fun r => r.all Abs.plainCell) = true := RowOk.allPlain Load.row_ok l
theorem okd2 (l : List Load) : decRows Load.dec (l.map Load.row) = some l := decRows_map Load.dec_row l
theorem okf3 (l : List LoadMove) : Abs.frzRows (l.map LoadMove.row) = l.map LoadMove.row := RowOk.frzRows LoadMove.row_ok l
theorem oka3 (l : List LoadMove) : (l.map LoadMove.row).all (fun r => r.all C.cellOk) = true := RowOk.all LoadMove.row_ok l
theorem okp3 (l : List LoadMove) : (l.map LoadMove.row).all (fun r => r.all Abs.plainCell) = true := RowOk.allPlain LoadMove.row_ok l
theorem okd3 (l : List LoadMove) : decRows LoadMove.dec (l.map LoadMove.row) = some l := decRows_map LoadMove.dec_row l
attribute [go_sem] ti3 ti4 ti22 ti23 ti25 ti36 ti40 ti41 ti43 ti50 Load.row Load.eta
attribute [go_sem] Load.dec Load.decA Load.dec_row LoadMove.row LoadMove.eta LoadMove.dec LoadMove.decA LoadMove.dec_row rowI_eq rowB_eq rowS_eq rowL_eq
attribute [go_sem] okf0 oka0 okp0 okd0 okf1 oka1 okp1 okd1 okf2 oka2 okp2 okd2
attribute [go_sem] okf3 oka3 okp3 okd3
end Go.Proofs.Ytpbloecedgddlaa
