/- Tables of readings and contracts. No statement. -/
import Derived.Test.YtmgpaicldmgckaaM
import Derived.Test.YtmgpaicldmgckaaChecked
import Derived.KernelRfl
/- What the kernel reckons of the program. -/
set_option maxHeartbeats 40000000
set_option synthInstance.maxHeartbeats 2000000
set_option synthInstance.maxSize 4000
set_option linter.unusedSimpArgs false
set_option linter.unusedVariables false
set_option maxRecDepth 100000
namespace Go.Proofs.Ytmgpaicldmgckaa
open Go Go.Proofs Go.Abs
theorem mix : Try.prog.follows .mixedOrders = true := by kernel_rfl
theorem ti3 : tiOf Try.prog 3 = some { size := 1, agg := false, bytes := 8, zero := [.int .i64 0], eqs := [], kind := .int .i64 } := by kernel_rfl
theorem ti4 : tiOf Try.prog 4 = some { size := 1, agg := false, bytes := 1, zero := [.bool false], eqs := [], kind := .bool } := by kernel_rfl
theorem ti5 : tiOf Try.prog 5 = some { size := 1, agg := false, bytes := 1, zero := [.int .u8 0], eqs := [], kind := .int .u8 } := by kernel_rfl
theorem ti9 : tiOf Try.prog 9 = some { size := 1, agg := false, bytes := 16, zero := [.string ⟨#[]⟩], eqs := [], kind := .str } := by kernel_rfl
theorem ti23 : tiOf Try.prog 23 = some { size := 2, agg := true, bytes := 32, zero := [.string ⟨#[]⟩, .string ⟨#[]⟩], eqs := [.str, .str], kind := .struct [(0, 9), (1, 9)] } := by kernel_rfl
theorem ti24 : tiOf Try.prog 24 = some { size := 1, agg := false, bytes := 24, zero := [.slice none 0 0], eqs := [], kind := .slice 56 30 } := by kernel_rfl
theorem ti26 : tiOf Try.prog 26 = some { size := 4, agg := true, bytes := 64, zero := [.string ⟨#[]⟩, .string ⟨#[]⟩, .int .i64 0, .slice none 0 0], eqs := [], kind := .struct [(0, 23), (2, 3), (3, 24)] } := by kernel_rfl
theorem ti27 : tiOf Try.prog 27 = some { size := 1, agg := false, bytes := 24, zero := [.slice none 0 0], eqs := [], kind := .slice 3 1 } := by kernel_rfl
theorem ti28 : tiOf Try.prog 28 = some { size := 1, agg := false, bytes := 24, zero := [.slice none 0 0], eqs := [], kind := .slice 35 5 } := by kernel_rfl
theorem ti29 : tiOf Try.prog 29 = some { size := 1, agg := false, bytes := 24, zero := [.slice none 0 0], eqs := [], kind := .slice 23 2 } := by kernel_rfl
theorem ti31 : tiOf Try.prog 31 = some { size := 9, agg := true, bytes := 152, zero := [.string ⟨#[]⟩, .int .i64 0, .slice none 0 0, .string ⟨#[]⟩, .string ⟨#[]⟩, .string ⟨#[]⟩, .slice none 0 0, .slice none 0 0, .int .i64 0], eqs := [], kind := .struct [(0, 9), (1, 3), (2, 27), (3, 23), (5, 9), (6, 28), (7, 29), (8, 3)] } := by kernel_rfl
theorem ti32 : tiOf Try.prog 32 = some { size := 1, agg := false, bytes := 8, zero := [.int .i64 0], eqs := [], kind := .int .i64 } := by kernel_rfl
theorem ti33 : tiOf Try.prog 33 = some { size := 1, agg := false, bytes := 24, zero := [.slice none 0 0], eqs := [], kind := .slice 9 1 } := by kernel_rfl
theorem ti35 : tiOf Try.prog 35 = some { size := 5, agg := true, bytes := 80, zero := [.int .i64 0, .int .i64 0, .string ⟨#[]⟩, .slice none 0 0, .slice none 0 0], eqs := [], kind := .struct [(0, 3), (1, 3), (2, 9), (3, 27), (4, 33)] } := by kernel_rfl
theorem ti37 : tiOf Try.prog 37 = some { size := 9, agg := true, bytes := 136, zero := [.string ⟨#[]⟩, .int .i64 0, .slice none 0 0, .int .i64 0, .int .i64 0, .int .i64 0, .string ⟨#[]⟩, .slice none 0 0, .slice none 0 0], eqs := [], kind := .struct [(0, 9), (1, 3), (2, 27), (3, 32), (4, 35)] } := by kernel_rfl
theorem ti56 : tiOf Try.prog 56 = some { size := 30, agg := true, bytes := 456, zero := [.string ⟨#[]⟩, .int .i64 0, .slice none 0 0, .string ⟨#[]⟩, .string ⟨#[]⟩, .string ⟨#[]⟩, .slice none 0 0, .slice none 0 0, .int .i64 0, .int .i64 0, .string ⟨#[]⟩, .int .i64 0, .slice none 0 0, .string ⟨#[]⟩, .string ⟨#[]⟩, .string ⟨#[]⟩, .slice none 0 0, .slice none 0 0, .int .i64 0, .bool false, .bool false, .string ⟨#[]⟩, .int .i64 0, .slice none 0 0, .int .i64 0, .int .i64 0, .int .i64 0, .string ⟨#[]⟩, .slice none 0 0, .slice none 0 0], eqs := [], kind := .struct [(0, 31), (9, 3), (10, 31), (19, 4), (20, 4), (21, 37)] } := by kernel_rfl
theorem ti66 : tiOf Try.prog 66 = some { size := 1, agg := false, bytes := 24, zero := [.slice none 0 0], eqs := [], kind := .slice 70 3 } := by kernel_rfl
theorem ti68 : tiOf Try.prog 68 = some { size := 1, agg := false, bytes := 24, zero := [.slice none 0 0], eqs := [], kind := .slice 31 9 } := by kernel_rfl
theorem ti70 : tiOf Try.prog 70 = some { size := 3, agg := true, bytes := 3, zero := [.int .u8 0, .int .u8 0, .int .u8 0], eqs := [.int, .int, .int], kind := .struct [(0, 5), (1, 5), (2, 5)] } := by kernel_rfl
theorem ti71 : tiOf Try.prog 71 = some { size := 1, agg := false, bytes := 24, zero := [.slice none 0 0], eqs := [], kind := .slice 5 1 } := by kernel_rfl
theorem okf0 (l : List Int) : Abs.frzRows (l.map (rowI .i64)) = l.map (rowI .i64) := RowOk.frzRows (rowI_ok .i64) l
theorem oka0 (l : List Int) : (l.map (rowI .i64)).all (fun r => r.all C.cellOk) = true := RowOk.all (rowI_ok .i64) l
theorem okp0 (l : List Int) : (l.map (rowI .i64)).all (fun r => r.all Abs.plainCell) = true := RowOk.allPlain (rowI_ok .i64) l
theorem okd0 (l : List Int) : decRows (dec1 (decI .i64)) (l.map (rowI .i64)) = some l := decRows_map (dec1_rowI .i64) l
theorem okf1 (l : List Int) : Abs.frzRows (l.map (rowI .u8)) = l.map (rowI .u8) := RowOk.frzRows (rowI_ok .u8) l
theorem oka1 (l : List Int) : (l.map (rowI .u8)).all (fun r => r.all C.cellOk) = true := RowOk.all (rowI_ok .u8) l
theorem okp1 (l : List Int) : (l.map (rowI .u8)).all (fun r => r.all Abs.plainCell) = true := RowOk.allPlain (rowI_ok .u8) l
theorem okd1 (l : List Int) : decRows (dec1 (decI .u8)) (l.map (rowI .u8)) = some l := decRows_map (dec1_rowI .u8) l
theorem okf2 (l : List Ref) : Abs.frzRows (l.map Ref.row) = l.map Ref.row := RowOk.frzRows Ref.row_ok l
theorem oka2 (l : List Ref) : (l.map Ref.row).all (fun r => r.all C.cellOk) = true := RowOk.all Ref.row_ok l
theorem okp2 (l : List Ref) : (l.map Ref.row).all (fun r => r.all Abs.plainCell) = true := RowOk.allPlain Ref.row_ok l
theorem okd2 (l : List Ref) : decRows Ref.dec (l.map Ref.row) = some l := decRows_map Ref.dec_row l
theorem okf3 (l : List Request) : Abs.frzRows (l.map Request.row) = l.map Request.row := RowOk.frzRows Request.row_ok l
theorem oka3 (l : List Request) : (l.map Request.row).all (fun r => r.all C.cellOk) = true := RowOk.all Request.row_ok l
theorem okp3 (l : List Request) : (l.map Request.row).all (fun r => r.all Abs.plainCell) = true := RowOk.allPlain Request.row_ok l
theorem okd3 (l : List Request) : decRows Request.dec (l.map Request.row) = some l := decRows_map Request.dec_row l
theorem okf4 (l : List Turn) : Abs.frzRows (l.map Turn.row) = l.map Turn.row := RowOk.frzRows Turn.row_ok l
theorem oka4 (l : List Turn) : (l.map Turn.row).all (fun r => r.all C.cellOk) = true := RowOk.all Turn.row_ok l
theorem okp4 (l : List Turn) : (l.map Turn.row).all (fun r => r.all Abs.plainCell) = true := RowOk.allPlain Turn.row_ok l
theorem okd4 (l : List Turn) : decRows Turn.dec (l.map Turn.row) = some l := decRows_map Turn.dec_row l
theorem okf5 (l : List Value) : Abs.frzRows (l.map Value.row) = l.map Value.row := RowOk.frzRows Value.row_ok l
theorem oka5 (l : List Value) : (l.map Value.row).all (fun r => r.all C.cellOk) = true := RowOk.all Value.row_ok l
theorem okp5 (l : List Value) : (l.map Value.row).all (fun r => r.all Abs.plainCell) = true := RowOk.allPlain Value.row_ok l
theorem okd5 (l : List Value) : decRows Value.dec (l.map Value.row) = some l := decRows_map Value.dec_row l
theorem okf6 (l : List actorgridlaw24_Act) : Abs.frzRows (l.map actorgridlaw24_Act.row) = l.map actorgridlaw24_Act.row := RowOk.frzRows actorgridlaw24_Act.row_ok l
theorem oka6 (l : List actorgridlaw24_Act) : (l.map actorgridlaw24_Act.row).all (fun r => r.all C.cellOk) = true := RowOk.all actorgridlaw24_Act.row_ok l
theorem okp6 (l : List actorgridlaw24_Act) : (l.map actorgridlaw24_Act.row).all (fun r => r.all Abs.plainCell) = true := RowOk.allPlain actorgridlaw24_Act.row_ok l
theorem okd6 (l : List actorgridlaw24_Act) : decRows actorgridlaw24_Act.dec (l.map actorgridlaw24_Act.row) = some l := decRows_map actorgridlaw24_Act.dec_row l
theorem okf7 (l : List ByteArray) : Abs.frzRows (l.map rowS) = l.map rowS := RowOk.frzRows rowS_ok l
theorem oka7 (l : List ByteArray) : (l.map rowS).all (fun r => r.all C.cellOk) = true := RowOk.all rowS_ok l
theorem okp7 (l : List ByteArray) : (l.map rowS).all (fun r => r.all Abs.plainCell) = true := RowOk.allPlain rowS_ok l
theorem okd7 (l : List ByteArray) : decRows (dec1 decS) (l.map rowS) = some l := decRows_map dec1_rowS l
attribute [go_sem] ti3 ti4 ti5 ti9 ti23 ti24 ti26 ti27 ti28 ti29 ti31 ti32
attribute [go_sem] ti33 ti35 ti37 ti56 ti66 ti68 ti70 ti71 Ref.row Ref.eta Ref.dec Ref.decA
attribute [go_sem] Ref.dec_row Value.row Value.eta Value.dec Value.decA Value.dec_row Request.row Request.eta Request.dec Request.decA Request.dec_row Reply.row
attribute [go_sem] Reply.eta Reply.dec Reply.decA Reply.dec_row Turn.row Turn.eta Turn.dec Turn.decA Turn.dec_row Actor.row Actor.eta Actor.dec
attribute [go_sem] Actor.decA Actor.dec_row actorgridlaw24_Act.row actorgridlaw24_Act.eta actorgridlaw24_Act.dec actorgridlaw24_Act.decA actorgridlaw24_Act.dec_row rowI_eq rowB_eq rowS_eq rowL_eq okf0
attribute [go_sem] oka0 okp0 okd0 okf1 oka1 okp1 okd1 okf2 oka2 okp2 okd2 okf3
attribute [go_sem] oka3 okp3 okd3 okf4 oka4 okp4 okd4 okf5 oka5 okp5 okd5 okf6
attribute [go_sem] oka6 okp6 okd6 okf7 oka7 okp7 okd7
end Go.Proofs.Ytmgpaicldmgckaa
