/- Tables of readings and contracts. No statement. -/
import Derived.Test.YtmacaidmhchpgaaGreatM
import Derived.Test.YtmacaidmhchpgaaGreatChecked
import Derived.KernelRfl
/- What the kernel reckons of the program. -/
set_option maxHeartbeats 40000000
set_option synthInstance.maxHeartbeats 2000000
set_option synthInstance.maxSize 4000
set_option linter.unusedSimpArgs false
set_option linter.unusedVariables false
set_option maxRecDepth 100000
namespace Go.Proofs.YtmacaidmhchpgaaGreat
open Go Go.Proofs Go.Abs Tryz
theorem mix:prog.follows .mixedOrders=true:=by kernel_rfl
theorem ti3:eB prog 3=some { size:=1,agg:=false,bytes:=8,zero:=[.int .i64 0],eqs:=[],kind:=.int .i64 }:=by kernel_rfl
theorem ti4:eB prog 4=some { size:=1,agg:=false,bytes:=1,zero:=[.bool false],eqs:=[],kind:=.bool }:=by kernel_rfl
theorem ti5:eB prog 5=some { size:=1,agg:=false,bytes:=1,zero:=[.int .u8 0],eqs:=[],kind:=.int .u8 }:=by kernel_rfl
theorem ti9:eB prog 9=some { size:=1,agg:=false,bytes:=16,zero:=[.string ⟨#[]⟩],eqs:=[],kind:=.str }:=by kernel_rfl
theorem abY:eB prog 22=some { size:=1,agg:=false,bytes:=24,zero:=[.slice none 0 0],eqs:=[],kind:=.slice 33 4 }:=by kernel_rfl
theorem abG:eB prog 24=some { size:=1,agg:=false,bytes:=24,zero:=[.slice none 0 0],eqs:=[],kind:=.slice 40 11 }:=by kernel_rfl
theorem abO:eB prog 25=some { size:=1,agg:=false,bytes:=24,zero:=[.slice none 0 0],eqs:=[],kind:=.slice 100 4 }:=by kernel_rfl
theorem aaI:eB prog 26=some { size:=1,agg:=false,bytes:=24,zero:=[.slice none 0 0],eqs:=[],kind:=.slice 67 3 }:=by kernel_rfl
theorem aay:eB prog 28=some { size:=3,agg:=true,bytes:=72,zero:=[.slice none 0 0,.slice none 0 0,.slice none 0 0],eqs:=[],kind:=.struct [(0,24),(1,25),(2,26)] }:=by kernel_rfl
theorem aaF:eB prog 29=some { size:=1,agg:=false,bytes:=24,zero:=[.slice none 0 0],eqs:=[],kind:=.slice 45 9 }:=by kernel_rfl
theorem aaU:eB prog 33=some { size:=4,agg:=true,bytes:=16,zero:=[.int .u8 0,.int .u8 0,.int .u8 0,.int .i64 0],eqs:=[.int,.int,.int,.int],kind:=.struct [(0,5),(1,5),(2,5),(3,3)] }:=by kernel_rfl
theorem abQ:eB prog 34=some { size:=1,agg:=false,bytes:=24,zero:=[.slice none 0 0],eqs:=[],kind:=.slice 72 4 }:=by kernel_rfl
theorem aaW:eB prog 35=some { size:=1,agg:=false,bytes:=24,zero:=[.slice none 0 0],eqs:=[],kind:=.slice 3 1 }:=by kernel_rfl
theorem aa7:eB prog 36=some { size:=1,agg:=false,bytes:=24,zero:=[.slice none 0 0],eqs:=[],kind:=.slice 9 1 }:=by kernel_rfl
theorem aaT:eB prog 38=some { size:=5,agg:=true,bytes:=80,zero:=[.int .i64 0,.int .i64 0,.string ⟨#[]⟩,.slice none 0 0,.slice none 0 0],eqs:=[],kind:=.struct [(0,3),(1,3),(2,9),(3,35),(4,36)] }:=by kernel_rfl
theorem aaX:eB prog 40=some { size:=11,agg:=true,bytes:=152,zero:=[.int .i64 0,.int .i64 0,.string ⟨#[]⟩,.int .i64 0,.slice none 0 0,.int .i64 0,.int .i64 0,.int .i64 0,.string ⟨#[]⟩,.slice none 0 0,.slice none 0 0],eqs:=[],kind:=.struct [(0,3),(1,3),(2,9),(3,3),(4,34),(5,3),(6,38)] }:=by kernel_rfl
theorem abU:eB prog 43=some { size:=1,agg:=false,bytes:=24,zero:=[.slice none 0 0],eqs:=[],kind:=.slice 58 3 }:=by kernel_rfl
theorem aaz:eB prog 45=some { size:=9,agg:=true,bytes:=136,zero:=[.int .i64 0,.string ⟨#[]⟩,.int .i64 0,.int .i64 0,.int .i64 0,.string ⟨#[]⟩,.slice none 0 0,.slice none 0 0,.slice none 0 0],eqs:=[],kind:=.struct [(0,3),(1,9),(2,3),(3,38),(8,43)] }:=by kernel_rfl
theorem aa2:eB prog 46=some { size:=1,agg:=false,bytes:=24,zero:=[.slice none 0 0],eqs:=[],kind:=.slice 52 2 }:=by kernel_rfl
theorem abv:eB prog 49=some { size:=1,agg:=false,bytes:=24,zero:=[.slice none 0 0],eqs:=[],kind:=.slice 55 3 }:=by kernel_rfl
theorem aaY:eB prog 52=some { size:=2,agg:=true,bytes:=32,zero:=[.string ⟨#[]⟩,.string ⟨#[]⟩],eqs:=[.str,.str],kind:=.struct [(0,9),(1,9)] }:=by kernel_rfl
theorem abr:eB prog 53=some { size:=1,agg:=false,bytes:=24,zero:=[.slice none 0 0],eqs:=[],kind:=.slice 38 5 }:=by kernel_rfl
theorem abk:eB prog 55=some { size:=3,agg:=true,bytes:=40,zero:=[.int .i64 0,.slice none 0 0,.bool false],eqs:=[],kind:=.struct [(0,3),(1,53),(2,4)] }:=by kernel_rfl
theorem aaC:eB prog 58=some { size:=3,agg:=true,bytes:=56,zero:=[.string ⟨#[]⟩,.string ⟨#[]⟩,.slice none 0 0],eqs:=[],kind:=.struct [(0,52),(2,53)] }:=by kernel_rfl
theorem aa1:eB prog 63=some { size:=1,agg:=false,bytes:=8,zero:=[.int .i64 0],eqs:=[],kind:=.int .i64 }:=by kernel_rfl
theorem abg:eB prog 67=some { size:=3,agg:=true,bytes:=56,zero:=[.string ⟨#[]⟩,.string ⟨#[]⟩,.slice none 0 0],eqs:=[],kind:=.struct [(0,52),(2,49)] }:=by kernel_rfl
theorem aaZ:eB prog 72=some { size:=4,agg:=true,bytes:=72,zero:=[.string ⟨#[]⟩,.string ⟨#[]⟩,.string ⟨#[]⟩,.slice none 0 0],eqs:=[],kind:=.struct [(0,52),(2,9),(3,53)] }:=by kernel_rfl
theorem ZJ:eB prog 100=some { size:=4,agg:=true,bytes:=64,zero:=[.string ⟨#[]⟩,.string ⟨#[]⟩,.int .i64 0,.slice none 0 0],eqs:=[],kind:=.struct [(0,52),(2,3),(3,35)] }:=by kernel_rfl
theorem Z0:eB prog 103=some { size:=1,agg:=false,bytes:=24,zero:=[.slice none 0 0],eqs:=[],kind:=.slice 156 3 }:=by kernel_rfl
theorem aan:eB prog 136=some { size:=1,agg:=false,bytes:=8,zero:=[.int .u64 0],eqs:=[],kind:=.int .u64 }:=by kernel_rfl
theorem Z7:eB prog 156=some { size:=3,agg:=true,bytes:=40,zero:=[.string ⟨#[]⟩,.string ⟨#[]⟩,.int .i64 0],eqs:=[.str,.str,.int],kind:=.struct [(0,52),(2,3)] }:=by kernel_rfl
theorem aaf:eB prog 188=some { size:=1,agg:=false,bytes:=8,zero:=[.int .u64 0],eqs:=[],kind:=.int .u64 }:=by kernel_rfl
theorem aba (l:List Int):Abs.frzRows (l.map (ay .i64))=l.map (ay .i64):=aF.frzRows (mA .i64) l
theorem abP (l:List Int):(l.map (ay .i64)).all (fun r=>r.all C.cellOk)=true:=aF.all (mA .i64) l
theorem aaA (l:List Int):(l.map (ay .i64)).all (fun r=>r.all Abs.plainCell)=true:=aF.allPlain (mA .i64) l
theorem abC (l:List Int):bR (du (aG .i64)) (l.map (ay .i64))=some l:=aP (y8 .i64) l
theorem aa5 (l:List ah):Abs.frzRows (l.map ah.row)=l.map ah.row:=aF.frzRows ah.row_ok l
theorem aaL (l:List ah):(l.map ah.row).all (fun r=>r.all C.cellOk)=true:=aF.all ah.row_ok l
theorem abn (l:List ah):(l.map ah.row).all (fun r=>r.all Abs.plainCell)=true:=aF.allPlain ah.row_ok l
theorem abb (l:List ah):bR ah.dec (l.map ah.row)=some l:=aP ah.dec_row l
theorem abe (l:List aD):Abs.frzRows (l.map aD.row)=l.map aD.row:=aF.frzRows aD.row_ok l
theorem aaO (l:List aD):(l.map aD.row).all (fun r=>r.all C.cellOk)=true:=aF.all aD.row_ok l
theorem aaJ (l:List aD):(l.map aD.row).all (fun r=>r.all Abs.plainCell)=true:=aF.allPlain aD.row_ok l
theorem abR (l:List aD):bR aD.dec (l.map aD.row)=some l:=aP aD.dec_row l
theorem abE (l:List al):Abs.frzRows (l.map al.row)=l.map al.row:=aF.frzRows al.row_ok l
theorem aaE (l:List al):(l.map al.row).all (fun r=>r.all C.cellOk)=true:=aF.all al.row_ok l
theorem abz (l:List al):(l.map al.row).all (fun r=>r.all Abs.plainCell)=true:=aF.allPlain al.row_ok l
theorem abW (l:List al):bR al.dec (l.map al.row)=some l:=aP al.dec_row l
theorem abx (l:List aa):Abs.frzRows (l.map aa.row)=l.map aa.row:=aF.frzRows aa.row_ok l
theorem abc (l:List aa):(l.map aa.row).all (fun r=>r.all C.cellOk)=true:=aF.all aa.row_ok l
theorem aaM (l:List aa):(l.map aa.row).all (fun r=>r.all Abs.plainCell)=true:=aF.allPlain aa.row_ok l
theorem abN (l:List aa):bR aa.dec (l.map aa.row)=some l:=aP aa.dec_row l
theorem aaH (l:List ai):Abs.frzRows (l.map ai.row)=l.map ai.row:=aF.frzRows ai.row_ok l
theorem abF (l:List ai):(l.map ai.row).all (fun r=>r.all C.cellOk)=true:=aF.all ai.row_ok l
theorem abA (l:List ai):(l.map ai.row).all (fun r=>r.all Abs.plainCell)=true:=aF.allPlain ai.row_ok l
theorem abf (l:List ai):bR ai.dec (l.map ai.row)=some l:=aP ai.dec_row l
theorem aaK (l:List az):Abs.frzRows (l.map az.row)=l.map az.row:=aF.frzRows az.row_ok l
theorem abd (l:List az):(l.map az.row).all (fun r=>r.all C.cellOk)=true:=aF.all az.row_ok l
theorem abm (l:List az):(l.map az.row).all (fun r=>r.all Abs.plainCell)=true:=aF.allPlain az.row_ok l
theorem aaR (l:List az):bR az.dec (l.map az.row)=some l:=aP az.dec_row l
theorem abB (l:List Ref):Abs.frzRows (l.map Ref.row)=l.map Ref.row:=aF.frzRows Ref.row_ok l
theorem aaD (l:List Ref):(l.map Ref.row).all (fun r=>r.all C.cellOk)=true:=aF.all Ref.row_ok l
theorem abV (l:List Ref):(l.map Ref.row).all (fun r=>r.all Abs.plainCell)=true:=aF.allPlain Ref.row_ok l
theorem abh (l:List Ref):bR Ref.dec (l.map Ref.row)=some l:=aP Ref.dec_row l
theorem abq (l:List Txn):Abs.frzRows (l.map Txn.row)=l.map Txn.row:=aF.frzRows Txn.row_ok l
theorem aaQ (l:List Txn):(l.map Txn.row).all (fun r=>r.all C.cellOk)=true:=aF.all Txn.row_ok l
theorem abu (l:List Txn):(l.map Txn.row).all (fun r=>r.all Abs.plainCell)=true:=aF.allPlain Txn.row_ok l
theorem abl (l:List Txn):bR Txn.dec (l.map Txn.row)=some l:=aP Txn.dec_row l
theorem aaS (l:List Value):Abs.frzRows (l.map Value.row)=l.map Value.row:=aF.frzRows Value.row_ok l
theorem aa3 (l:List Value):(l.map Value.row).all (fun r=>r.all C.cellOk)=true:=aF.all Value.row_ok l
theorem abi (l:List Value):(l.map Value.row).all (fun r=>r.all Abs.plainCell)=true:=aF.allPlain Value.row_ok l
theorem aa6 (l:List Value):bR Value.dec (l.map Value.row)=some l:=aP Value.dec_row l
theorem Z3 (l:List aR):Abs.frzRows (l.map aR.row)=l.map aR.row:=aF.frzRows aR.row_ok l
theorem ZW (l:List aR):(l.map aR.row).all (fun r=>r.all C.cellOk)=true:=aF.all aR.row_ok l
theorem aag (l:List aR):(l.map aR.row).all (fun r=>r.all Abs.plainCell)=true:=aF.allPlain aR.row_ok l
theorem aaa (l:List aR):bR aR.dec (l.map aR.row)=some l:=aP aR.dec_row l
theorem ZV (l:List aj):Abs.frzRows (l.map aj.row)=l.map aj.row:=aF.frzRows aj.row_ok l
theorem ZP (l:List aj):(l.map aj.row).all (fun r=>r.all C.cellOk)=true:=aF.all aj.row_ok l
theorem aai (l:List aj):(l.map aj.row).all (fun r=>r.all Abs.plainCell)=true:=aF.allPlain aj.row_ok l
theorem ZT (l:List aj):bR aj.dec (l.map aj.row)=some l:=aP aj.dec_row l
theorem ZR (l:List ByteArray):Abs.frzRows (l.map dT)=l.map dT:=aF.frzRows FP l
theorem ZO (l:List ByteArray):(l.map dT).all (fun r=>r.all C.cellOk)=true:=aF.all FP l
theorem ZM (l:List ByteArray):(l.map dT).all (fun r=>r.all Abs.plainCell)=true:=aF.allPlain FP l
theorem ZK (l:List ByteArray):bR (du bW) (l.map dT)=some l:=aP B1 l
theorem abS (l:List aa):bR aa.decE (l.map aa.rowD)=some l:=aP aa.decE_rowD l
theorem abw (l:List aa):bR aa.dec (l.map aa.rowD)=some l:=aP aa.dec_rowD l
attribute [go_sem] ti3 ti4 ti5 ti9 abY abG abO aaI aay aaF aaU abQ
attribute [go_sem] aaW aa7 aaT aaX abU aaz aa2 abv aaY abr abk aaC
attribute [go_sem] aa1 abg aaZ ZJ Z0 aan Z7 aaf aj.row aj.eta aj.dec aj.decA
attribute [go_sem] aj.dec_row Ref.row Ref.eta Ref.dec Ref.decA Ref.dec_row Value.row Value.eta Value.dec Value.decA Value.dec_row ah.row
attribute [go_sem] ah.eta ah.dec ah.decA ah.dec_row Txn.row Txn.eta Txn.dec Txn.decA Txn.dec_row ai.rowD ai.row ai.eta
attribute [go_sem] ai.dec ai.decA ai.dec_row al.row al.eta al.dec al.decA al.dec_row aa.rowD aa.dec_rowD aa.decE aa.decE_rowD
attribute [go_sem] aa.row aa.eta aa.dec aa.decA aa.dec_row ae.row ae.eta ae.dec ae.decA ae.dec_row aR.row aR.eta
attribute [go_sem] aR.dec aR.decA aR.dec_row aD.row aD.eta aD.dec aD.decA aD.dec_row az.row az.eta az.dec az.decA
attribute [go_sem] az.dec_row YC Yg X1 Yd aba abP aaA abC aa5 aaL abn
attribute [go_sem] abb abe aaO aaJ abR abE aaE abz abW abx abc aaM
attribute [go_sem] abN aaH abF abA abf aaK abd abm aaR abB aaD abV
attribute [go_sem] abh abq aaQ abu abl aaS aa3 abi aa6 Z3 ZW aag
attribute [go_sem] aaa ZV ZP aai ZT ZR ZO ZM ZK abS abw
end Go.Proofs.YtmacaidmhchpgaaGreat
