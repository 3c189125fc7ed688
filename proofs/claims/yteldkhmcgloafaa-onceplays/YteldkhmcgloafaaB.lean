/- Tables of readings and contracts. No statement. -/
import Derived.Test.YteldkhmcgloafaaM
import Derived.Test.YteldkhmcgloafaaChecked
import Derived.KernelRfl
/- What the kernel reckons of the program. -/
set_option maxHeartbeats 40000000
set_option synthInstance.maxHeartbeats 2000000
set_option synthInstance.maxSize 4000
set_option linter.unusedSimpArgs false
set_option linter.unusedVariables false
set_option maxRecDepth 100000
namespace Go.Proofs.Yteldkhmcgloafaa
open Go Go.Proofs Go.Abs
theorem mix:Try.prog.follows .mixedOrders=true:=by kernel_rfl
theorem ti3:tiOf Try.prog 3=some { size:=1,agg:=false,bytes:=8,zero:=[.int .i64 0],eqs:=[],kind:=.int .i64 }:=by kernel_rfl
theorem ti4:tiOf Try.prog 4=some { size:=1,agg:=false,bytes:=1,zero:=[.bool false],eqs:=[],kind:=.bool }:=by kernel_rfl
theorem ti5:tiOf Try.prog 5=some { size:=1,agg:=false,bytes:=1,zero:=[.int .u8 0],eqs:=[],kind:=.int .u8 }:=by kernel_rfl
theorem ti9:tiOf Try.prog 9=some { size:=1,agg:=false,bytes:=16,zero:=[.string ⟨#[]⟩],eqs:=[],kind:=.str }:=by kernel_rfl
theorem ti22:tiOf Try.prog 22=some { size:=1,agg:=false,bytes:=24,zero:=[.slice none 0 0],eqs:=[],kind:=.slice 56 4 }:=by kernel_rfl
theorem ti23:tiOf Try.prog 23=some { size:=1,agg:=false,bytes:=24,zero:=[.slice none 0 0],eqs:=[],kind:=.slice 3 1 }:=by kernel_rfl
theorem ti24:tiOf Try.prog 24=some { size:=1,agg:=false,bytes:=8,zero:=[.int .i64 0],eqs:=[],kind:=.int .i64 }:=by kernel_rfl
theorem ti25:tiOf Try.prog 25=some { size:=1,agg:=false,bytes:=24,zero:=[.slice none 0 0],eqs:=[],kind:=.slice 9 1 }:=by kernel_rfl
theorem ti27:tiOf Try.prog 27=some { size:=5,agg:=true,bytes:=80,zero:=[.int .i64 0,.int .i64 0,.string ⟨#[]⟩,.slice none 0 0,.slice none 0 0],eqs:=[],kind:=.struct [(0,3),(1,3),(2,9),(3,23),(4,25)] }:=by kernel_rfl
theorem ti29:tiOf Try.prog 29=some { size:=9,agg:=true,bytes:=136,zero:=[.string ⟨#[]⟩,.int .i64 0,.slice none 0 0,.int .i64 0,.int .i64 0,.int .i64 0,.string ⟨#[]⟩,.slice none 0 0,.slice none 0 0],eqs:=[],kind:=.struct [(0,9),(1,3),(2,23),(3,24),(4,27)] }:=by kernel_rfl
theorem ti42:tiOf Try.prog 42=some { size:=1,agg:=false,bytes:=24,zero:=[.slice none 0 0],eqs:=[],kind:=.slice 48 4 }:=by kernel_rfl
theorem ti43:tiOf Try.prog 43=some { size:=32,agg:=true,bytes:=32,zero:=[.bool false,.bool false,.bool false,.bool false,.bool false,.bool false,.bool false,.bool false,.bool false,.bool false,.bool false,.bool false,.bool false,.bool false,.bool false,.bool false,.bool false,.bool false,.bool false,.bool false,.bool false,.bool false,.bool false,.bool false,.bool false,.bool false,.bool false,.bool false,.bool false,.bool false,.bool false,.bool false],eqs:=[.bool,.bool,.bool,.bool,.bool,.bool,.bool,.bool,.bool,.bool,.bool,.bool,.bool,.bool,.bool,.bool,.bool,.bool,.bool,.bool,.bool,.bool,.bool,.bool,.bool,.bool,.bool,.bool,.bool,.bool,.bool,.bool],kind:=.arr 32 4 1 }:=by kernel_rfl
theorem ti44:tiOf Try.prog 44=some { size:=96,agg:=true,bytes:=96,zero:=[.bool false,.bool false,.bool false,.bool false,.bool false,.bool false,.bool false,.bool false,.bool false,.bool false,.bool false,.bool false,.bool false,.bool false,.bool false,.bool false,.bool false,.bool false,.bool false,.bool false,.bool false,.bool false,.bool false,.bool false,.bool false,.bool false,.bool false,.bool false,.bool false,.bool false,.bool false,.bool false,.bool false,.bool false,.bool false,.bool false,.bool false,.bool false,.bool false,.bool false,.bool false,.bool false,.bool false,.bool false,.bool false,.bool false,.bool false,.bool false,.bool false,.bool false,.bool false,.bool false,.bool false,.bool false,.bool false,.bool false,.bool false,.bool false,.bool false,.bool false,.bool false,.bool false,.bool false,.bool false,.bool false,.bool false,.bool false,.bool false,.bool false,.bool false,.bool false,.bool false,.bool false,.bool false,.bool false,.bool false,.bool false,.bool false,.bool false,.bool false,.bool false,.bool false,.bool false,.bool false,.bool false,.bool false,.bool false,.bool false,.bool false,.bool false,.bool false,.bool false,.bool false,.bool false,.bool false,.bool false],eqs:=[],kind:=.arr 3 43 32 }:=by kernel_rfl
theorem ti45:tiOf Try.prog 45=some { size:=32,agg:=true,bytes:=256,zero:=[.int .i64 0,.int .i64 0,.int .i64 0,.int .i64 0,.int .i64 0,.int .i64 0,.int .i64 0,.int .i64 0,.int .i64 0,.int .i64 0,.int .i64 0,.int .i64 0,.int .i64 0,.int .i64 0,.int .i64 0,.int .i64 0,.int .i64 0,.int .i64 0,.int .i64 0,.int .i64 0,.int .i64 0,.int .i64 0,.int .i64 0,.int .i64 0,.int .i64 0,.int .i64 0,.int .i64 0,.int .i64 0,.int .i64 0,.int .i64 0,.int .i64 0,.int .i64 0],eqs:=[.int,.int,.int,.int,.int,.int,.int,.int,.int,.int,.int,.int,.int,.int,.int,.int,.int,.int,.int,.int,.int,.int,.int,.int,.int,.int,.int,.int,.int,.int,.int,.int],kind:=.arr 32 3 1 }:=by kernel_rfl
theorem ti46:tiOf Try.prog 46=some { size:=96,agg:=true,bytes:=768,zero:=[.int .i64 0,.int .i64 0,.int .i64 0,.int .i64 0,.int .i64 0,.int .i64 0,.int .i64 0,.int .i64 0,.int .i64 0,.int .i64 0,.int .i64 0,.int .i64 0,.int .i64 0,.int .i64 0,.int .i64 0,.int .i64 0,.int .i64 0,.int .i64 0,.int .i64 0,.int .i64 0,.int .i64 0,.int .i64 0,.int .i64 0,.int .i64 0,.int .i64 0,.int .i64 0,.int .i64 0,.int .i64 0,.int .i64 0,.int .i64 0,.int .i64 0,.int .i64 0,.int .i64 0,.int .i64 0,.int .i64 0,.int .i64 0,.int .i64 0,.int .i64 0,.int .i64 0,.int .i64 0,.int .i64 0,.int .i64 0,.int .i64 0,.int .i64 0,.int .i64 0,.int .i64 0,.int .i64 0,.int .i64 0,.int .i64 0,.int .i64 0,.int .i64 0,.int .i64 0,.int .i64 0,.int .i64 0,.int .i64 0,.int .i64 0,.int .i64 0,.int .i64 0,.int .i64 0,.int .i64 0,.int .i64 0,.int .i64 0,.int .i64 0,.int .i64 0,.int .i64 0,.int .i64 0,.int .i64 0,.int .i64 0,.int .i64 0,.int .i64 0,.int .i64 0,.int .i64 0,.int .i64 0,.int .i64 0,.int .i64 0,.int .i64 0,.int .i64 0,.int .i64 0,.int .i64 0,.int .i64 0,.int .i64 0,.int .i64 0,.int .i64 0,.int .i64 0,.int .i64 0,.int .i64 0,.int .i64 0,.int .i64 0,.int .i64 0,.int .i64 0,.int .i64 0,.int .i64 0,.int .i64 0,.int .i64 0,.int .i64 0,.int .i64 0],eqs:=[],kind:=.arr 3 45 32 }:=by kernel_rfl
theorem ti48:tiOf Try.prog 48=some { size:=4,agg:=true,bytes:=16,zero:=[.int .u8 0,.int .u8 0,.int .u8 0,.int .i64 0],eqs:=[.int,.int,.int,.int],kind:=.struct [(0,5),(1,5),(2,5),(3,3)] }:=by kernel_rfl
theorem ti49:tiOf Try.prog 49=some { size:=1,agg:=false,bytes:=24,zero:=[.slice none 0 0],eqs:=[],kind:=.slice 5 1 }:=by kernel_rfl
theorem ti54:tiOf Try.prog 54=some { size:=1,agg:=false,bytes:=24,zero:=[.slice none 0 0],eqs:=[],kind:=.slice 58 10 }:=by kernel_rfl
theorem ti56:tiOf Try.prog 56=some { size:=4,agg:=true,bytes:=72,zero:=[.string ⟨#[]⟩,.int .i64 0,.slice none 0 0,.slice none 0 0],eqs:=[],kind:=.struct [(0,9),(1,3),(2,23),(3,54)] }:=by kernel_rfl
theorem ti58:tiOf Try.prog 58=some { size:=10,agg:=true,bytes:=144,zero:=[.int .i64 0,.string ⟨#[]⟩,.int .i64 0,.slice none 0 0,.int .i64 0,.int .i64 0,.int .i64 0,.string ⟨#[]⟩,.slice none 0 0,.slice none 0 0],eqs:=[],kind:=.struct [(0,3),(1,29)] }:=by kernel_rfl
theorem ti71:tiOf Try.prog 71=some { size:=1,agg:=false,bytes:=8,zero:=[.pointer none],eqs:=[],kind:=.other }:=by kernel_rfl
theorem ti91:tiOf Try.prog 91=some { size:=1,agg:=false,bytes:=8,zero:=[.int .u64 0],eqs:=[],kind:=.int .u64 }:=by kernel_rfl
theorem okf0 (l:List Int):Abs.frzRows (l.map (rowI .i64))=l.map (rowI .i64):=RowOk.frzRows (dV .i64) l
theorem oka0 (l:List Int):(l.map (rowI .i64)).all (fun r=>r.all C.cellOk)=true:=RowOk.all (dV .i64) l
theorem okp0 (l:List Int):(l.map (rowI .i64)).all (fun r=>r.all Abs.plainCell)=true:=RowOk.allPlain (dV .i64) l
theorem okd0 (l:List Int):dD (dec1 (decI .i64)) (l.map (rowI .i64))=some l:=be (js .i64) l
theorem okf1 (l:List Int):Abs.frzRows (l.map (rowI .u8))=l.map (rowI .u8):=RowOk.frzRows (dV .u8) l
theorem oka1 (l:List Int):(l.map (rowI .u8)).all (fun r=>r.all C.cellOk)=true:=RowOk.all (dV .u8) l
theorem okp1 (l:List Int):(l.map (rowI .u8)).all (fun r=>r.all Abs.plainCell)=true:=RowOk.allPlain (dV .u8) l
theorem okd1 (l:List Int):dD (dec1 (decI .u8)) (l.map (rowI .u8))=some l:=be (js .u8) l
theorem okf2 (l:List Answer):Abs.frzRows (l.map Answer.row)=l.map Answer.row:=RowOk.frzRows Answer.row_ok l
theorem oka2 (l:List Answer):(l.map Answer.row).all (fun r=>r.all C.cellOk)=true:=RowOk.all Answer.row_ok l
theorem okp2 (l:List Answer):(l.map Answer.row).all (fun r=>r.all Abs.plainCell)=true:=RowOk.allPlain Answer.row_ok l
theorem okd2 (l:List Answer):dD Answer.dec (l.map Answer.row)=some l:=be Answer.dec_row l
theorem okf3 (l:List Client):Abs.frzRows (l.map Client.row)=l.map Client.row:=RowOk.frzRows Client.row_ok l
theorem oka3 (l:List Client):(l.map Client.row).all (fun r=>r.all C.cellOk)=true:=RowOk.all Client.row_ok l
theorem okp3 (l:List Client):(l.map Client.row).all (fun r=>r.all Abs.plainCell)=true:=RowOk.allPlain Client.row_ok l
theorem okd3 (l:List Client):dD Client.dec (l.map Client.row)=some l:=be Client.dec_row l
theorem okf4 (l:List aa):Abs.frzRows (l.map aa.row)=l.map aa.row:=RowOk.frzRows aa.row_ok l
theorem oka4 (l:List aa):(l.map aa.row).all (fun r=>r.all C.cellOk)=true:=RowOk.all aa.row_ok l
theorem okp4 (l:List aa):(l.map aa.row).all (fun r=>r.all Abs.plainCell)=true:=RowOk.allPlain aa.row_ok l
theorem okd4 (l:List aa):dD aa.dec (l.map aa.row)=some l:=be aa.dec_row l
theorem okf5 (l:List ByteArray):Abs.frzRows (l.map rowS)=l.map rowS:=RowOk.frzRows gQ l
theorem oka5 (l:List ByteArray):(l.map rowS).all (fun r=>r.all C.cellOk)=true:=RowOk.all gQ l
theorem okp5 (l:List ByteArray):(l.map rowS).all (fun r=>r.all Abs.plainCell)=true:=RowOk.allPlain gQ l
theorem okd5 (l:List ByteArray):dD (dec1 decS) (l.map rowS)=some l:=be mG l
theorem okg3 (l:List Client):dD Client.dec (l.map Client.rowD)=some l:=be Client.dec_rowD l
attribute [go_sem] ti3 ti4 ti5 ti9 ti22 ti23 ti24 ti25 ti27 ti29 ti42 ti43
attribute [go_sem] ti44 ti45 ti46 ti48 ti49 ti54 ti56 ti58 ti71 ti91 Value.row Value.eta
attribute [go_sem] Value.dec Value.decA Value.dec_row Reply.row Reply.eta Reply.dec Reply.decA Reply.dec_row Answer.row Answer.eta Answer.dec Answer.decA
attribute [go_sem] Answer.dec_row Client.rowD Client.row Client.eta Client.dec Client.decA Client.dec_row aa.row aa.eta aa.dec aa.decA aa.dec_row
attribute [go_sem] yT yU yZ yW okf0 oka0 okp0 okd0 okf1 oka1 okp1 okd1
attribute [go_sem] okf2 oka2 okp2 okd2 okf3 oka3 okp3 okd3 okf4 oka4 okp4 okd4
attribute [go_sem] okf5 oka5 okp5 okd5 okg3
end Go.Proofs.Yteldkhmcgloafaa
