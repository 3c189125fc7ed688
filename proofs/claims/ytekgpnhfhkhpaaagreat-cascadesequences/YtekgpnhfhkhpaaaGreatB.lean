/- Tables of readings and contracts. No statement. -/
import Derived.Test.YtekgpnhfhkhpaaaGreatM
import Derived.Test.YtekgpnhfhkhpaaaGreatChecked
import Derived.KernelRfl
/- What the kernel reckons of the program. -/
set_option maxHeartbeats 40000000
set_option synthInstance.maxHeartbeats 2000000
set_option synthInstance.maxSize 4000
set_option linter.unusedSimpArgs false
set_option linter.unusedVariables false
set_option maxRecDepth 100000
namespace Go.Proofs.YtekgpnhfhkhpaaaGreat
open Go Go.Proofs Go.Abs
theorem mix:Tryz.prog.follows .mixedOrders=true:=by kernel_rfl
theorem ti3:tiOf Tryz.prog 3=some { size:=1,agg:=false,bytes:=8,zero:=[.int .i64 0],eqs:=[],kind:=.int .i64 }:=by kernel_rfl
theorem ti4:tiOf Tryz.prog 4=some { size:=1,agg:=false,bytes:=1,zero:=[.bool false],eqs:=[],kind:=.bool }:=by kernel_rfl
theorem ti5:tiOf Tryz.prog 5=some { size:=1,agg:=false,bytes:=1,zero:=[.int .u8 0],eqs:=[],kind:=.int .u8 }:=by kernel_rfl
theorem ti9:tiOf Tryz.prog 9=some { size:=1,agg:=false,bytes:=16,zero:=[.string ⟨#[]⟩],eqs:=[],kind:=.str }:=by kernel_rfl
theorem ti22:tiOf Tryz.prog 22=some { size:=1,agg:=false,bytes:=24,zero:=[.slice none 0 0],eqs:=[],kind:=.slice 33 3 }:=by kernel_rfl
theorem ti23:tiOf Tryz.prog 23=some { size:=1,agg:=false,bytes:=24,zero:=[.slice none 0 0],eqs:=[],kind:=.slice 36 2 }:=by kernel_rfl
theorem ti24:tiOf Tryz.prog 24=some { size:=1,agg:=false,bytes:=24,zero:=[.slice none 0 0],eqs:=[],kind:=.slice 3 1 }:=by kernel_rfl
theorem ti30:tiOf Tryz.prog 30=some { size:=1,agg:=false,bytes:=24,zero:=[.slice none 0 0],eqs:=[],kind:=.slice 50 3 }:=by kernel_rfl
theorem ti33:tiOf Tryz.prog 33=some { size:=3,agg:=true,bytes:=24,zero:=[.int .i64 0,.int .i64 0,.int .i64 0],eqs:=[.int,.int,.int],kind:=.struct [(0,3),(1,3),(2,3)] }:=by kernel_rfl
theorem ti36:tiOf Tryz.prog 36=some { size:=2,agg:=true,bytes:=16,zero:=[.int .i64 0,.int .i64 0],eqs:=[.int,.int],kind:=.arr 2 3 1 }:=by kernel_rfl
theorem ti50:tiOf Tryz.prog 50=some { size:=3,agg:=true,bytes:=3,zero:=[.int .u8 0,.int .u8 0,.int .u8 0],eqs:=[.int,.int,.int],kind:=.struct [(0,5),(1,5),(2,5)] }:=by kernel_rfl
theorem ti55:tiOf Tryz.prog 55=some { size:=1,agg:=false,bytes:=24,zero:=[.slice none 0 0],eqs:=[],kind:=.slice 87 2 }:=by kernel_rfl
theorem ti57:tiOf Tryz.prog 57=some { size:=6,agg:=true,bytes:=144,zero:=[.slice none 0 0,.slice none 0 0,.slice none 0 0,.slice none 0 0,.slice none 0 0,.slice none 0 0],eqs:=[],kind:=.struct [(0,55),(1,23),(2,24),(3,24),(4,24),(5,23)] }:=by kernel_rfl
theorem ti71:tiOf Tryz.prog 71=some { size:=1,agg:=false,bytes:=24,zero:=[.slice none 0 0],eqs:=[],kind:=.slice 78 3 }:=by kernel_rfl
theorem ti73:tiOf Tryz.prog 73=some { size:=6,agg:=true,bytes:=144,zero:=[.slice none 0 0,.slice none 0 0,.slice none 0 0,.slice none 0 0,.slice none 0 0,.slice none 0 0],eqs:=[],kind:=.struct [(0,71),(1,24),(2,23),(3,24),(4,24),(5,24)] }:=by kernel_rfl
theorem ti76:tiOf Tryz.prog 76=some { size:=1,agg:=false,bytes:=24,zero:=[.slice none 0 0],eqs:=[],kind:=.slice 4 1 }:=by kernel_rfl
theorem ti78:tiOf Tryz.prog 78=some { size:=3,agg:=true,bytes:=56,zero:=[.int .i64 0,.slice none 0 0,.slice none 0 0],eqs:=[],kind:=.struct [(0,3),(1,24),(2,76)] }:=by kernel_rfl
theorem ti81:tiOf Tryz.prog 81=some { size:=1,agg:=false,bytes:=8,zero:=[.int .u64 0],eqs:=[],kind:=.int .u64 }:=by kernel_rfl
theorem ti87:tiOf Tryz.prog 87=some { size:=2,agg:=true,bytes:=32,zero:=[.int .i64 0,.slice none 0 0],eqs:=[],kind:=.struct [(0,3),(1,24)] }:=by kernel_rfl
theorem ti102:tiOf Tryz.prog 102=some { size:=1,agg:=false,bytes:=8,zero:=[.int .u64 0],eqs:=[],kind:=.int .u64 }:=by kernel_rfl
theorem okf0 (l:List Int):Abs.frzRows (l.map (rowI .i64))=l.map (rowI .i64):=RowOk.frzRows (fy .i64) l
theorem oka0 (l:List Int):(l.map (rowI .i64)).all (fun r=>r.all C.cellOk)=true:=RowOk.all (fy .i64) l
theorem okp0 (l:List Int):(l.map (rowI .i64)).all (fun r=>r.all Abs.plainCell)=true:=RowOk.allPlain (fy .i64) l
theorem okd0 (l:List Int):bv (dec1 (decI .i64)) (l.map (rowI .i64))=some l:=aC (iv .i64) l
theorem okf1 (l:List ae):Abs.frzRows (l.map ae.row)=l.map ae.row:=RowOk.frzRows ae.row_ok l
theorem oka1 (l:List ae):(l.map ae.row).all (fun r=>r.all C.cellOk)=true:=RowOk.all ae.row_ok l
theorem okp1 (l:List ae):(l.map ae.row).all (fun r=>r.all Abs.plainCell)=true:=RowOk.allPlain ae.row_ok l
theorem okd1 (l:List ae):bv ae.dec (l.map ae.row)=some l:=aC ae.dec_row l
theorem okf2 (l:List ah):Abs.frzRows (l.map ah.row)=l.map ah.row:=RowOk.frzRows ah.row_ok l
theorem oka2 (l:List ah):(l.map ah.row).all (fun r=>r.all C.cellOk)=true:=RowOk.all ah.row_ok l
theorem okp2 (l:List ah):(l.map ah.row).all (fun r=>r.all Abs.plainCell)=true:=RowOk.allPlain ah.row_ok l
theorem okd2 (l:List ah):bv ah.dec (l.map ah.row)=some l:=aC ah.dec_row l
theorem okf3 (l:List aj):Abs.frzRows (l.map aj.row)=l.map aj.row:=RowOk.frzRows aj.row_ok l
theorem oka3 (l:List aj):(l.map aj.row).all (fun r=>r.all C.cellOk)=true:=RowOk.all aj.row_ok l
theorem okp3 (l:List aj):(l.map aj.row).all (fun r=>r.all Abs.plainCell)=true:=RowOk.allPlain aj.row_ok l
theorem okd3 (l:List aj):bv aj.dec (l.map aj.row)=some l:=aC aj.dec_row l
theorem okf4 (l:List aa):Abs.frzRows (l.map aa.row)=l.map aa.row:=RowOk.frzRows aa.row_ok l
theorem oka4 (l:List aa):(l.map aa.row).all (fun r=>r.all C.cellOk)=true:=RowOk.all aa.row_ok l
theorem okp4 (l:List aa):(l.map aa.row).all (fun r=>r.all Abs.plainCell)=true:=RowOk.allPlain aa.row_ok l
theorem okd4 (l:List aa):bv aa.dec (l.map aa.row)=some l:=aC aa.dec_row l
theorem okf5 (l:List ag):Abs.frzRows (l.map ag.row)=l.map ag.row:=RowOk.frzRows ag.row_ok l
theorem oka5 (l:List ag):(l.map ag.row).all (fun r=>r.all C.cellOk)=true:=RowOk.all ag.row_ok l
theorem okp5 (l:List ag):(l.map ag.row).all (fun r=>r.all Abs.plainCell)=true:=RowOk.allPlain ag.row_ok l
theorem okd5 (l:List ag):bv ag.dec (l.map ag.row)=some l:=aC ag.dec_row l
theorem okf6 (l:List Bool):Abs.frzRows (l.map rowB)=l.map rowB:=RowOk.frzRows zK l
theorem oka6 (l:List Bool):(l.map rowB).all (fun r=>r.all C.cellOk)=true:=RowOk.all zK l
theorem okp6 (l:List Bool):(l.map rowB).all (fun r=>r.all Abs.plainCell)=true:=RowOk.allPlain zK l
theorem okd6 (l:List Bool):bv (dec1 decB) (l.map rowB)=some l:=aC s9 l
theorem oke3 (l:List ag):bv ag.decE (l.map ag.rowD)=some l:=aC ag.decE_rowD l
theorem okg3 (l:List ag):bv ag.dec (l.map ag.rowD)=some l:=aC ag.dec_rowD l
theorem oke5 (l:List aa):bv aa.decE (l.map aa.rowD)=some l:=aC aa.decE_rowD l
theorem okg5 (l:List aa):bv aa.dec (l.map aa.rowD)=some l:=aC aa.dec_rowD l
attribute [go_sem] ti3 ti4 ti5 ti9 ti22 ti23 ti24 ti30 ti33 ti36 ti50 ti55
attribute [go_sem] ti57 ti71 ti73 ti76 ti78 ti81 ti87 ti102 ah.row ah.eta ah.dec ah.decA
attribute [go_sem] ah.dec_row ae.row ae.eta ae.dec ae.decA ae.dec_row aj.row aj.eta aj.dec aj.decA aj.dec_row ag.rowD
attribute [go_sem] ag.dec_rowD ag.decE ag.decE_rowD ag.row ag.eta ag.dec ag.decA ag.dec_row af.rowD af.dec_rowD af.decE af.decE_rowD
attribute [go_sem] af.row af.eta af.dec af.decA af.dec_row aa.rowD aa.dec_rowD aa.decE aa.decE_rowD aa.row aa.eta aa.dec
attribute [go_sem] aa.decA aa.dec_row ac.rowD ac.dec_rowD ac.decE ac.decE_rowD ac.row ac.eta ac.dec ac.decA ac.dec_row Ge
attribute [go_sem] Gx F3 F6 okf0 oka0 okp0 okd0 okf1 oka1 okp1 okd1 okf2
attribute [go_sem] oka2 okp2 okd2 okf3 oka3 okp3 okd3 okf4 oka4 okp4 okd4 okf5
attribute [go_sem] oka5 okp5 okd5 okf6 oka6 okp6 okd6 oke3 okg3 oke5 okg5
end Go.Proofs.YtekgpnhfhkhpaaaGreat
