/- Tables of readings and contracts. No statement. -/
import Derived.Test.YtpkfhjbgnpdgcaaM
import Derived.Test.YtpkfhjbgnpdgcaaChecked
import Derived.KernelRfl
/- What the kernel reckons of the program. -/
set_option maxHeartbeats 40000000
set_option synthInstance.maxHeartbeats 2000000
set_option synthInstance.maxSize 4000
set_option linter.unusedSimpArgs false
set_option linter.unusedVariables false
set_option maxRecDepth 100000
namespace Go.Proofs.Ytpkfhjbgnpdgcaa
open Go Go.Proofs Go.Abs
theorem mix : Try.prog.follows .mixedOrders = true := by kernel_rfl
theorem ti3 : tiOf Try.prog 3 = some { size := 1, agg := false, bytes := 8, zero := [.int .i64 0], eqs := [], kind := .int .i64 } := by kernel_rfl
theorem ti4 : tiOf Try.prog 4 = some { size := 1, agg := false, bytes := 1, zero := [.bool false], eqs := [], kind := .bool } := by kernel_rfl
theorem ti5 : tiOf Try.prog 5 = some { size := 1, agg := false, bytes := 1, zero := [.int .u8 0], eqs := [], kind := .int .u8 } := by kernel_rfl
theorem ti9 : tiOf Try.prog 9 = some { size := 1, agg := false, bytes := 16, zero := [.string ⟨#[]⟩], eqs := [], kind := .str } := by kernel_rfl
theorem ti22 : tiOf Try.prog 22 = some { size := 1, agg := false, bytes := 24, zero := [.slice none 0 0], eqs := [], kind := .slice 34 3 } := by kernel_rfl
theorem ti24 : tiOf Try.prog 24 = some { size := 1, agg := false, bytes := 24, zero := [.slice none 0 0], eqs := [], kind := .slice 3 1 } := by kernel_rfl
theorem ti25 : tiOf Try.prog 25 = some { size := 1, agg := false, bytes := 24, zero := [.slice none 0 0], eqs := [], kind := .slice 54 4 } := by kernel_rfl
theorem ti27 : tiOf Try.prog 27 = some { size := 4, agg := true, bytes := 72, zero := [.string ⟨#[]⟩, .int .i64 0, .slice none 0 0, .slice none 0 0], eqs := [], kind := .struct [(0, 9), (1, 3), (2, 24), (3, 25)] } := by kernel_rfl
theorem ti28 : tiOf Try.prog 28 = some { size := 1, agg := false, bytes := 8, zero := [.int .i64 0], eqs := [], kind := .int .i64 } := by kernel_rfl
theorem ti34 : tiOf Try.prog 34 = some { size := 3, agg := true, bytes := 16, zero := [.int .u8 0, .int .u8 0, .int .i64 0], eqs := [.int, .int, .int], kind := .struct [(0, 5), (1, 5), (2, 3)] } := by kernel_rfl
theorem ti39 : tiOf Try.prog 39 = some { size := 2, agg := true, bytes := 32, zero := [.string ⟨#[]⟩, .string ⟨#[]⟩], eqs := [.str, .str], kind := .struct [(0, 9), (1, 9)] } := by kernel_rfl
theorem ti44 : tiOf Try.prog 44 = some { size := 1, agg := false, bytes := 24, zero := [.slice none 0 0], eqs := [], kind := .slice 47 5 } := by kernel_rfl
theorem ti47 : tiOf Try.prog 47 = some { size := 5, agg := true, bytes := 64, zero := [.string ⟨#[]⟩, .string ⟨#[]⟩, .string ⟨#[]⟩, .int .i64 0, .int .i64 0], eqs := [.str, .str, .str, .int, .int], kind := .struct [(0, 39), (2, 9), (3, 3), (4, 3)] } := by kernel_rfl
theorem ti54 : tiOf Try.prog 54 = some { size := 4, agg := true, bytes := 56, zero := [.string ⟨#[]⟩, .string ⟨#[]⟩, .string ⟨#[]⟩, .int .i64 0], eqs := [.str, .str, .str, .int], kind := .struct [(0, 39), (2, 9), (3, 3)] } := by kernel_rfl
theorem okf0 (l : List Int) : Abs.frzRows (l.map (rowI .i64)) = l.map (rowI .i64) := RowOk.frzRows (rowI_ok .i64) l
theorem oka0 (l : List Int) : (l.map (rowI .i64)).all (fun r => r.all C.cellOk) = true := RowOk.all (rowI_ok .i64) l
theorem okp0 (l : List Int) : (l.map (rowI .i64)).all (fun r => r.all Abs.plainCell) = true := RowOk.allPlain (rowI_ok .i64) l
theorem okd0 (l : List Int) : decRows (dec1 (decI .i64)) (l.map (rowI .i64)) = some l := decRows_map (dec1_rowI .i64) l
theorem okf1 (l : List Delivery) : Abs.frzRows (l.map Delivery.row) = l.map Delivery.row := RowOk.frzRows Delivery.row_ok l
theorem oka1 (l : List Delivery) : (l.map Delivery.row).all (fun r => r.all C.cellOk) = true := RowOk.all Delivery.row_ok l
theorem okp1 (l : List Delivery) : (l.map Delivery.row).all (fun r => r.all Abs.plainCell) = true := RowOk.allPlain Delivery.row_ok l
theorem okd1 (l : List Delivery) : decRows Delivery.dec (l.map Delivery.row) = some l := decRows_map Delivery.dec_row l
theorem okf2 (l : List Sub) : Abs.frzRows (l.map Sub.row) = l.map Sub.row := RowOk.frzRows Sub.row_ok l
theorem oka2 (l : List Sub) : (l.map Sub.row).all (fun r => r.all C.cellOk) = true := RowOk.all Sub.row_ok l
theorem okp2 (l : List Sub) : (l.map Sub.row).all (fun r => r.all Abs.plainCell) = true := RowOk.allPlain Sub.row_ok l
theorem okd2 (l : List Sub) : decRows Sub.dec (l.map Sub.row) = some l := decRows_map Sub.dec_row l
theorem okf3 (l : List actorgridlaw30_Act) : Abs.frzRows (l.map actorgridlaw30_Act.row) = l.map actorgridlaw30_Act.row := RowOk.frzRows actorgridlaw30_Act.row_ok l
theorem oka3 (l : List actorgridlaw30_Act) : (l.map actorgridlaw30_Act.row).all (fun r => r.all C.cellOk) = true := RowOk.all actorgridlaw30_Act.row_ok l
theorem okp3 (l : List actorgridlaw30_Act) : (l.map actorgridlaw30_Act.row).all (fun r => r.all Abs.plainCell) = true := RowOk.allPlain actorgridlaw30_Act.row_ok l
theorem okd3 (l : List actorgridlaw30_Act) : decRows actorgridlaw30_Act.dec (l.map actorgridlaw30_Act.row) = some l := decRows_map actorgridlaw30_Act.dec_row l
attribute [go_sem] ti3 ti4 ti5 ti9 ti22 ti24 ti25 ti27 ti28 ti34 ti39 ti44
attribute [go_sem] ti47 ti54 actorgridlaw30_Act.row actorgridlaw30_Act.eta actorgridlaw30_Act.dec actorgridlaw30_Act.decA actorgridlaw30_Act.dec_row Ref.row Ref.eta Ref.dec Ref.decA Ref.dec_row
attribute [go_sem] Sub.row Sub.eta Sub.dec Sub.decA Sub.dec_row Topic.row Topic.eta Topic.dec Topic.decA Topic.dec_row Delivery.row Delivery.eta
attribute [go_sem] Delivery.dec Delivery.decA Delivery.dec_row rowI_eq rowB_eq rowS_eq rowL_eq okf0 oka0 okp0 okd0 okf1
attribute [go_sem] oka1 okp1 okd1 okf2 oka2 okp2 okd2 okf3 oka3 okp3 okd3
end Go.Proofs.Ytpkfhjbgnpdgcaa
