/- Tables of readings and contracts. No statement. -/
import Derived.Test.YteldkhmcgloafaaM
import Derived.Test.YteldkhmcgloafaaChecked
import Derived.KernelRfl
/- What the kernel reckons of the program. -/
set_option maxHeartbeats 40000000
set_option synthInstance.maxHeartbeats 2000000
set_option synthInstance.maxSize 4000
set_option linter.unusedSimpArgs false
set_option linter.unusedVariables false
set_option maxRecDepth 100000
namespace Go.Proofs.Yteldkhmcgloafaa
open Go Go.Proofs Go.Abs
theorem mix:Try.prog.follows .mixedOrders=true:=by kernel_rfl
theorem ti3:tiOf Try.prog 3=some { size:=1,agg:=false,bytes:=8,zero:=[.int .i64 0],eqs:=[],kind:=.int .i64 }:=by kernel_rfl
theorem ti4:tiOf Try.prog 4=some { size:=1,agg:=false,bytes:=1,zero:=[.bool false],eqs:=[],kind:=.bool }:=by kernel_rfl
theorem ti5:tiOf Try.prog 5=some { size:=1,agg:=false,bytes:=1,zero:=[.int .u8 0],eqs:=[],kind:=.int .u8 }:=by kernel_rfl
theorem ti9:tiOf Try.prog 9=some { size:=1,agg:=false,bytes:=16,zero:=[.string ⟨#[]⟩],eqs:=[],kind:=.str }:=by kernel_rfl
theorem ti22:tiOf Try.prog 22=some { size:=1,agg:=false,bytes:=24,zero:=[.slice none 0 0],eqs:=[],kind:=.slice 56 4 }:=by kernel_rfl
theorem ti23:tiOf Try.prog 23=some { size:=1,agg:=false,bytes:=24,zero:=[.slice none 0 0],eqs:=[],kind:=.slice 3 1 }:=by kernel_rfl
theorem ti24:tiOf Try.prog 24=some { size:=1,agg:=false,bytes:=8,zero:=[.int .i64 0],eqs:=[],kind:=.int .i64 }:=by kernel_rfl
theorem ti25:tiOf Try.prog 25=some { size:=1,agg:=false,bytes:=24,zero:=[.slice none 0 0],eqs:=[],kind:=.slice 9 1 }:=by kernel_rfl
theorem ti27:tiOf Try.prog 27=some { size:=5,agg:=true,bytes:=80,zero:=[.int .i64 0,.int .i64 0,.string ⟨#[]⟩,.slice none 0 0,.slice none 0 0],eqs:=[],kind:=.struct [(0,3),(1,3),(2,9),(3,23),(4,25)] }:=by kernel_rfl
theorem ti29:tiOf Try.prog 29=some { size:=9,agg:=true,bytes:=136,zero:=[.string ⟨#[]⟩,.int .i64 0,.slice none 0 0,.int .i64 0,.int .i64 0,.int .i64 0,.string ⟨#[]⟩,.slice none 0 0,.slice none 0 0],eqs:=[],kind:=.struct [(0,9),(1,3),(2,23),(3,24),(4,27)] }:=by kernel_rfl
theorem ti51:tiOf Try.prog 51=some { size:=1,agg:=false,bytes:=2,zero:=[.int .u16 0],eqs:=[],kind:=.int .u16 }:=by kernel_rfl
theorem ti54:tiOf Try.prog 54=some { size:=1,agg:=false,bytes:=24,zero:=[.slice none 0 0],eqs:=[],kind:=.slice 58 10 }:=by kernel_rfl
theorem ti56:tiOf Try.prog 56=some { size:=4,agg:=true,bytes:=72,zero:=[.string ⟨#[]⟩,.int .i64 0,.slice none 0 0,.slice none 0 0],eqs:=[],kind:=.struct [(0,9),(1,3),(2,23),(3,54)] }:=by kernel_rfl
theorem ti58:tiOf Try.prog 58=some { size:=10,agg:=true,bytes:=144,zero:=[.int .i64 0,.string ⟨#[]⟩,.int .i64 0,.slice none 0 0,.int .i64 0,.int .i64 0,.int .i64 0,.string ⟨#[]⟩,.slice none 0 0,.slice none 0 0],eqs:=[],kind:=.struct [(0,3),(1,29)] }:=by kernel_rfl
theorem ti71:tiOf Try.prog 71=some { size:=1,agg:=false,bytes:=8,zero:=[.pointer none],eqs:=[],kind:=.other }:=by kernel_rfl
theorem ti91:tiOf Try.prog 91=some { size:=1,agg:=false,bytes:=8,zero:=[.int .u64 0],eqs:=[],kind:=.int .u64 }:=by kernel_rfl
theorem okf0 (l:List Int):Abs.frzRows (l.map (rowI .i64))=l.map (rowI .i64):=RowOk.frzRows (ef .i64) l
theorem oka0 (l:List Int):(l.map (rowI .i64)).all (fun r=>r.all C.cellOk)=true:=RowOk.all (ef .i64) l
theorem okp0 (l:List Int):(l.map (rowI .i64)).all (fun r=>r.all Abs.plainCell)=true:=RowOk.allPlain (ef .i64) l
theorem okd0 (l:List Int):dA (dec1 (decI .i64)) (l.map (rowI .i64))=some l:=bo (jz .i64) l
theorem okf1 (l:List Answer):Abs.frzRows (l.map Answer.row)=l.map Answer.row:=RowOk.frzRows Answer.row_ok l
theorem oka1 (l:List Answer):(l.map Answer.row).all (fun r=>r.all C.cellOk)=true:=RowOk.all Answer.row_ok l
theorem okp1 (l:List Answer):(l.map Answer.row).all (fun r=>r.all Abs.plainCell)=true:=RowOk.allPlain Answer.row_ok l
theorem okd1 (l:List Answer):dA Answer.dec (l.map Answer.row)=some l:=bo Answer.dec_row l
theorem okf2 (l:List Client):Abs.frzRows (l.map Client.row)=l.map Client.row:=RowOk.frzRows Client.row_ok l
theorem oka2 (l:List Client):(l.map Client.row).all (fun r=>r.all C.cellOk)=true:=RowOk.all Client.row_ok l
theorem okp2 (l:List Client):(l.map Client.row).all (fun r=>r.all Abs.plainCell)=true:=RowOk.allPlain Client.row_ok l
theorem okd2 (l:List Client):dA Client.dec (l.map Client.row)=some l:=bo Client.dec_row l
theorem okf3 (l:List ByteArray):Abs.frzRows (l.map rowS)=l.map rowS:=RowOk.frzRows fX l
theorem oka3 (l:List ByteArray):(l.map rowS).all (fun r=>r.all C.cellOk)=true:=RowOk.all fX l
theorem okp3 (l:List ByteArray):(l.map rowS).all (fun r=>r.all Abs.plainCell)=true:=RowOk.allPlain fX l
theorem okd3 (l:List ByteArray):dA (dec1 decS) (l.map rowS)=some l:=bo lR l
theorem okg3 (l:List Client):dA Client.dec (l.map Client.rowD)=some l:=bo Client.dec_rowD l
attribute [go_sem] ti3 ti4 ti5 ti9 ti22 ti23 ti24 ti25 ti27 ti29 ti51 ti54
attribute [go_sem] ti56 ti58 ti71 ti91 Value.row Value.eta Value.dec Value.decA Value.dec_row Reply.row Reply.eta Reply.dec
attribute [go_sem] Reply.decA Reply.dec_row Answer.row Answer.eta Answer.dec Answer.decA Answer.dec_row Client.rowD Client.row Client.eta Client.dec Client.decA
attribute [go_sem] Client.dec_row vO vL vT vY okf0 oka0 okp0 okd0 okf1 oka1 okp1
attribute [go_sem] okd1 okf2 oka2 okp2 okd2 okf3 oka3 okp3 okd3 okg3
end Go.Proofs.Yteldkhmcgloafaa
