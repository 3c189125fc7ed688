/- Tables of readings and contracts. No statement. -/
import Derived.Test.YthdbndgfjldhpaaM
import Derived.Test.YthdbndgfjldhpaaChecked
import Derived.KernelRfl
/- What the kernel reckons of the program. -/
set_option maxHeartbeats 40000000
set_option synthInstance.maxHeartbeats 2000000
set_option synthInstance.maxSize 4000
set_option linter.unusedSimpArgs false
set_option linter.unusedVariables false
set_option maxRecDepth 100000
namespace Go.Proofs.Ythdbndgfjldhpaa
open Go Go.Proofs Go.Abs
theorem mix : Try.prog.follows .mixedOrders = true := by kernel_rfl
theorem ti3 : tiOf Try.prog 3 = some { size := 1, agg := false, bytes := 8, zero := [.int .i64 0], eqs := [], kind := .int .i64 } := by kernel_rfl
theorem ti4 : tiOf Try.prog 4 = some { size := 1, agg := false, bytes := 1, zero := [.bool false], eqs := [], kind := .bool } := by kernel_rfl
theorem ti5 : tiOf Try.prog 5 = some { size := 1, agg := false, bytes := 1, zero := [.int .u8 0], eqs := [], kind := .int .u8 } := by kernel_rfl
theorem ti9 : tiOf Try.prog 9 = some { size := 1, agg := false, bytes := 16, zero := [.string ⟨#[]⟩], eqs := [], kind := .str } := by kernel_rfl
theorem ti22 : tiOf Try.prog 22 = some { size := 1, agg := false, bytes := 2, zero := [.int .u16 0], eqs := [], kind := .int .u16 } := by kernel_rfl
theorem ti24 : tiOf Try.prog 24 = some { size := 1, agg := false, bytes := 24, zero := [.slice none 0 0], eqs := [], kind := .slice 32 5 } := by kernel_rfl
theorem ti26 : tiOf Try.prog 26 = some { size := 1, agg := false, bytes := 24, zero := [.slice none 0 0], eqs := [], kind := .slice 35 4 } := by kernel_rfl
theorem ti27 : tiOf Try.prog 27 = some { size := 1, agg := false, bytes := 8, zero := [.int .i64 0], eqs := [], kind := .int .i64 } := by kernel_rfl
theorem ti32 : tiOf Try.prog 32 = some { size := 5, agg := true, bytes := 5, zero := [.int .u8 0, .int .u8 0, .int .u8 0, .int .u8 0, .int .u8 0], eqs := [.int, .int, .int, .int, .int], kind := .struct [(0, 5), (1, 5), (2, 5), (3, 5), (4, 5)] } := by kernel_rfl
theorem ti35 : tiOf Try.prog 35 = some { size := 4, agg := true, bytes := 40, zero := [.string ⟨#[]⟩, .int .i64 0, .int .i64 0, .int .i64 0], eqs := [.str, .int, .int, .int], kind := .struct [(0, 9), (1, 3), (2, 3), (3, 3)] } := by kernel_rfl
theorem ti65 : tiOf Try.prog 65 = some { size := 1, agg := false, bytes := 8, zero := [.int .u64 0], eqs := [], kind := .int .u64 } := by kernel_rfl
theorem okf0 (l : List Reminder) : Abs.frzRows (l.map Reminder.row) = l.map Reminder.row := RowOk.frzRows Reminder.row_ok l
theorem oka0 (l : List Reminder) : (l.map Reminder.row).all (fun r => r.all C.cellOk) = true := RowOk.all Reminder.row_ok l
theorem okp0 (l : List Reminder) : (l.map Reminder.row).all (fun r => r.all Abs.plainCell) = true := RowOk.allPlain Reminder.row_ok l
theorem okd0 (l : List Reminder) : decRows Reminder.dec (l.map Reminder.row) = some l := decRows_map Reminder.dec_row l
theorem okf1 (l : List actorgridlaw29_Act) : Abs.frzRows (l.map actorgridlaw29_Act.row) = l.map actorgridlaw29_Act.row := RowOk.frzRows actorgridlaw29_Act.row_ok l
theorem oka1 (l : List actorgridlaw29_Act) : (l.map actorgridlaw29_Act.row).all (fun r => r.all C.cellOk) = true := RowOk.all actorgridlaw29_Act.row_ok l
theorem okp1 (l : List actorgridlaw29_Act) : (l.map actorgridlaw29_Act.row).all (fun r => r.all Abs.plainCell) = true := RowOk.allPlain actorgridlaw29_Act.row_ok l
theorem okd1 (l : List actorgridlaw29_Act) : decRows actorgridlaw29_Act.dec (l.map actorgridlaw29_Act.row) = some l := decRows_map actorgridlaw29_Act.dec_row l
attribute [go_sem] ti3 ti4 ti5 ti9 ti22 ti24 ti26 ti27 ti32 ti35 ti65 actorgridlaw29_Act.row
attribute [go_sem] actorgridlaw29_Act.eta actorgridlaw29_Act.dec actorgridlaw29_Act.decA actorgridlaw29_Act.dec_row Reminder.row Reminder.eta Reminder.dec Reminder.decA Reminder.dec_row rowI_eq rowB_eq rowS_eq
attribute [go_sem] rowL_eq okf0 oka0 okp0 okd0 okf1 oka1 okp1 okd1
end Go.Proofs.Ythdbndgfjldhpaa
