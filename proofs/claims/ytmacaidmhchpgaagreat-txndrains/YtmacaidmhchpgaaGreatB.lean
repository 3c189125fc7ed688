/- Tables of readings and contracts. No statement. -/
import Derived.Test.YtmacaidmhchpgaaGreatM
import Derived.Test.YtmacaidmhchpgaaGreatChecked
import Derived.KernelRfl
/- What the kernel reckons of the program. -/
set_option maxHeartbeats 40000000
set_option synthInstance.maxHeartbeats 2000000
set_option synthInstance.maxSize 4000
set_option linter.unusedSimpArgs false
set_option linter.unusedVariables false
set_option maxRecDepth 100000
namespace Go.Proofs.YtmacaidmhchpgaaGreat
open Go Go.Proofs Go.Abs Tryz
theorem mix:prog.follows .mixedOrders=true:=by kernel_rfl
theorem ti3:ey prog 3=some { size:=1,agg:=false,bytes:=8,zero:=[.int .i64 0],eqs:=[],kind:=.int .i64 }:=by kernel_rfl
theorem ti4:ey prog 4=some { size:=1,agg:=false,bytes:=1,zero:=[.bool false],eqs:=[],kind:=.bool }:=by kernel_rfl
theorem ti5:ey prog 5=some { size:=1,agg:=false,bytes:=1,zero:=[.int .u8 0],eqs:=[],kind:=.int .u8 }:=by kernel_rfl
theorem ti9:ey prog 9=some { size:=1,agg:=false,bytes:=16,zero:=[.string ⟨#[]⟩],eqs:=[],kind:=.str }:=by kernel_rfl
theorem abS:ey prog 22=some { size:=1,agg:=false,bytes:=24,zero:=[.slice none 0 0],eqs:=[],kind:=.slice 33 4 }:=by kernel_rfl
theorem aaT:ey prog 24=some { size:=1,agg:=false,bytes:=24,zero:=[.slice none 0 0],eqs:=[],kind:=.slice 40 11 }:=by kernel_rfl
theorem abP:ey prog 25=some { size:=1,agg:=false,bytes:=24,zero:=[.slice none 0 0],eqs:=[],kind:=.slice 100 4 }:=by kernel_rfl
theorem abQ:ey prog 26=some { size:=1,agg:=false,bytes:=24,zero:=[.slice none 0 0],eqs:=[],kind:=.slice 67 3 }:=by kernel_rfl
theorem aau:ey prog 28=some { size:=3,agg:=true,bytes:=72,zero:=[.slice none 0 0,.slice none 0 0,.slice none 0 0],eqs:=[],kind:=.struct [(0,24),(1,25),(2,26)] }:=by kernel_rfl
theorem aay:ey prog 29=some { size:=1,agg:=false,bytes:=24,zero:=[.slice none 0 0],eqs:=[],kind:=.slice 45 9 }:=by kernel_rfl
theorem abo:ey prog 33=some { size:=4,agg:=true,bytes:=16,zero:=[.int .u8 0,.int .u8 0,.int .u8 0,.int .i64 0],eqs:=[.int,.int,.int,.int],kind:=.struct [(0,5),(1,5),(2,5),(3,3)] }:=by kernel_rfl
theorem aaQ:ey prog 34=some { size:=1,agg:=false,bytes:=24,zero:=[.slice none 0 0],eqs:=[],kind:=.slice 72 4 }:=by kernel_rfl
theorem aax:ey prog 35=some { size:=1,agg:=false,bytes:=24,zero:=[.slice none 0 0],eqs:=[],kind:=.slice 3 1 }:=by kernel_rfl
theorem abJ:ey prog 36=some { size:=1,agg:=false,bytes:=24,zero:=[.slice none 0 0],eqs:=[],kind:=.slice 9 1 }:=by kernel_rfl
theorem aa0:ey prog 38=some { size:=5,agg:=true,bytes:=80,zero:=[.int .i64 0,.int .i64 0,.string ⟨#[]⟩,.slice none 0 0,.slice none 0 0],eqs:=[],kind:=.struct [(0,3),(1,3),(2,9),(3,35),(4,36)] }:=by kernel_rfl
theorem aaM:ey prog 40=some { size:=11,agg:=true,bytes:=152,zero:=[.int .i64 0,.int .i64 0,.string ⟨#[]⟩,.int .i64 0,.slice none 0 0,.int .i64 0,.int .i64 0,.int .i64 0,.string ⟨#[]⟩,.slice none 0 0,.slice none 0 0],eqs:=[],kind:=.struct [(0,3),(1,3),(2,9),(3,3),(4,34),(5,3),(6,38)] }:=by kernel_rfl
theorem aa7:ey prog 43=some { size:=1,agg:=false,bytes:=24,zero:=[.slice none 0 0],eqs:=[],kind:=.slice 58 3 }:=by kernel_rfl
theorem aaA:ey prog 45=some { size:=9,agg:=true,bytes:=136,zero:=[.int .i64 0,.string ⟨#[]⟩,.int .i64 0,.int .i64 0,.int .i64 0,.string ⟨#[]⟩,.slice none 0 0,.slice none 0 0,.slice none 0 0],eqs:=[],kind:=.struct [(0,3),(1,9),(2,3),(3,38),(8,43)] }:=by kernel_rfl
theorem aaK:ey prog 46=some { size:=1,agg:=false,bytes:=24,zero:=[.slice none 0 0],eqs:=[],kind:=.slice 52 2 }:=by kernel_rfl
theorem abv:ey prog 49=some { size:=1,agg:=false,bytes:=24,zero:=[.slice none 0 0],eqs:=[],kind:=.slice 55 3 }:=by kernel_rfl
theorem aaD:ey prog 52=some { size:=2,agg:=true,bytes:=32,zero:=[.string ⟨#[]⟩,.string ⟨#[]⟩],eqs:=[.str,.str],kind:=.struct [(0,9),(1,9)] }:=by kernel_rfl
theorem abe:ey prog 53=some { size:=1,agg:=false,bytes:=24,zero:=[.slice none 0 0],eqs:=[],kind:=.slice 38 5 }:=by kernel_rfl
theorem aaI:ey prog 55=some { size:=3,agg:=true,bytes:=40,zero:=[.int .i64 0,.slice none 0 0,.bool false],eqs:=[],kind:=.struct [(0,3),(1,53),(2,4)] }:=by kernel_rfl
theorem aaC:ey prog 58=some { size:=3,agg:=true,bytes:=56,zero:=[.string ⟨#[]⟩,.string ⟨#[]⟩,.slice none 0 0],eqs:=[],kind:=.struct [(0,52),(2,53)] }:=by kernel_rfl
theorem abO:ey prog 63=some { size:=1,agg:=false,bytes:=8,zero:=[.int .i64 0],eqs:=[],kind:=.int .i64 }:=by kernel_rfl
theorem abk:ey prog 67=some { size:=3,agg:=true,bytes:=56,zero:=[.string ⟨#[]⟩,.string ⟨#[]⟩,.slice none 0 0],eqs:=[],kind:=.struct [(0,52),(2,49)] }:=by kernel_rfl
theorem abc:ey prog 72=some { size:=4,agg:=true,bytes:=72,zero:=[.string ⟨#[]⟩,.string ⟨#[]⟩,.string ⟨#[]⟩,.slice none 0 0],eqs:=[],kind:=.struct [(0,52),(2,9),(3,53)] }:=by kernel_rfl
theorem Z1:ey prog 100=some { size:=4,agg:=true,bytes:=64,zero:=[.string ⟨#[]⟩,.string ⟨#[]⟩,.int .i64 0,.slice none 0 0],eqs:=[],kind:=.struct [(0,52),(2,3),(3,35)] }:=by kernel_rfl
theorem Z7:ey prog 103=some { size:=1,agg:=false,bytes:=24,zero:=[.slice none 0 0],eqs:=[],kind:=.slice 156 3 }:=by kernel_rfl
theorem Z6:ey prog 136=some { size:=1,agg:=false,bytes:=8,zero:=[.int .u64 0],eqs:=[],kind:=.int .u64 }:=by kernel_rfl
theorem Z8:ey prog 156=some { size:=3,agg:=true,bytes:=40,zero:=[.string ⟨#[]⟩,.string ⟨#[]⟩,.int .i64 0],eqs:=[.str,.str,.int],kind:=.struct [(0,52),(2,3)] }:=by kernel_rfl
theorem ZF:ey prog 188=some { size:=1,agg:=false,bytes:=8,zero:=[.int .u64 0],eqs:=[],kind:=.int .u64 }:=by kernel_rfl
theorem aa2 (l:List Int):Abs.frzRows (l.map (aB .i64))=l.map (aB .i64):=aF.frzRows (lW .i64) l
theorem aa3 (l:List Int):(l.map (aB .i64)).all (fun r=>r.all C.cellOk)=true:=aF.all (lW .i64) l
theorem abi (l:List Int):(l.map (aB .i64)).all (fun r=>r.all Abs.plainCell)=true:=aF.allPlain (lW .i64) l
theorem abf (l:List Int):bT (dJ (aH .i64)) (l.map (aB .i64))=some l:=aP (yV .i64) l
theorem aaO (l:List ah):Abs.frzRows (l.map ah.row)=l.map ah.row:=aF.frzRows ah.row_ok l
theorem aav (l:List ah):(l.map ah.row).all (fun r=>r.all C.cellOk)=true:=aF.all ah.row_ok l
theorem aa4 (l:List ah):(l.map ah.row).all (fun r=>r.all Abs.plainCell)=true:=aF.allPlain ah.row_ok l
theorem abM (l:List ah):bT ah.dec (l.map ah.row)=some l:=aP ah.dec_row l
theorem abg (l:List aD):Abs.frzRows (l.map aD.row)=l.map aD.row:=aF.frzRows aD.row_ok l
theorem abG (l:List aD):(l.map aD.row).all (fun r=>r.all C.cellOk)=true:=aF.all aD.row_ok l
theorem abA (l:List aD):(l.map aD.row).all (fun r=>r.all Abs.plainCell)=true:=aF.allPlain aD.row_ok l
theorem aaF (l:List aD):bT aD.dec (l.map aD.row)=some l:=aP aD.dec_row l
theorem aaJ (l:List al):Abs.frzRows (l.map al.row)=l.map al.row:=aF.frzRows al.row_ok l
theorem abN (l:List al):(l.map al.row).all (fun r=>r.all C.cellOk)=true:=aF.all al.row_ok l
theorem aa1 (l:List al):(l.map al.row).all (fun r=>r.all Abs.plainCell)=true:=aF.allPlain al.row_ok l
theorem aa6 (l:List al):bT al.dec (l.map al.row)=some l:=aP al.dec_row l
theorem abj (l:List aa):Abs.frzRows (l.map aa.row)=l.map aa.row:=aF.frzRows aa.row_ok l
theorem aaR (l:List aa):(l.map aa.row).all (fun r=>r.all C.cellOk)=true:=aF.all aa.row_ok l
theorem abn (l:List aa):(l.map aa.row).all (fun r=>r.all Abs.plainCell)=true:=aF.allPlain aa.row_ok l
theorem abw (l:List aa):bT aa.dec (l.map aa.row)=some l:=aP aa.dec_row l
theorem abz (l:List ai):Abs.frzRows (l.map ai.row)=l.map ai.row:=aF.frzRows ai.row_ok l
theorem aaz (l:List ai):(l.map ai.row).all (fun r=>r.all C.cellOk)=true:=aF.all ai.row_ok l
theorem abB (l:List ai):(l.map ai.row).all (fun r=>r.all Abs.plainCell)=true:=aF.allPlain ai.row_ok l
theorem aaS (l:List ai):bT ai.dec (l.map ai.row)=some l:=aP ai.dec_row l
theorem abr (l:List ay):Abs.frzRows (l.map ay.row)=l.map ay.row:=aF.frzRows ay.row_ok l
theorem abU (l:List ay):(l.map ay.row).all (fun r=>r.all C.cellOk)=true:=aF.all ay.row_ok l
theorem abp (l:List ay):(l.map ay.row).all (fun r=>r.all Abs.plainCell)=true:=aF.allPlain ay.row_ok l
theorem aby (l:List ay):bT ay.dec (l.map ay.row)=some l:=aP ay.dec_row l
theorem aaN (l:List Ref):Abs.frzRows (l.map Ref.row)=l.map Ref.row:=aF.frzRows Ref.row_ok l
theorem abt (l:List Ref):(l.map Ref.row).all (fun r=>r.all C.cellOk)=true:=aF.all Ref.row_ok l
theorem aa5 (l:List Ref):(l.map Ref.row).all (fun r=>r.all Abs.plainCell)=true:=aF.allPlain Ref.row_ok l
theorem aaZ (l:List Ref):bT Ref.dec (l.map Ref.row)=some l:=aP Ref.dec_row l
theorem abF (l:List Txn):Abs.frzRows (l.map Txn.row)=l.map Txn.row:=aF.frzRows Txn.row_ok l
theorem abK (l:List Txn):(l.map Txn.row).all (fun r=>r.all C.cellOk)=true:=aF.all Txn.row_ok l
theorem aaL (l:List Txn):(l.map Txn.row).all (fun r=>r.all Abs.plainCell)=true:=aF.allPlain Txn.row_ok l
theorem aaU (l:List Txn):bT Txn.dec (l.map Txn.row)=some l:=aP Txn.dec_row l
theorem aaP (l:List Value):Abs.frzRows (l.map Value.row)=l.map Value.row:=aF.frzRows Value.row_ok l
theorem abx (l:List Value):(l.map Value.row).all (fun r=>r.all C.cellOk)=true:=aF.all Value.row_ok l
theorem abb (l:List Value):(l.map Value.row).all (fun r=>r.all Abs.plainCell)=true:=aF.allPlain Value.row_ok l
theorem abD (l:List Value):bT Value.dec (l.map Value.row)=some l:=aP Value.dec_row l
theorem ZG (l:List aR):Abs.frzRows (l.map aR.row)=l.map aR.row:=aF.frzRows aR.row_ok l
theorem aac (l:List aR):(l.map aR.row).all (fun r=>r.all C.cellOk)=true:=aF.all aR.row_ok l
theorem ZD (l:List aR):(l.map aR.row).all (fun r=>r.all Abs.plainCell)=true:=aF.allPlain aR.row_ok l
theorem ZE (l:List aR):bT aR.dec (l.map aR.row)=some l:=aP aR.dec_row l
theorem aab (l:List aj):Abs.frzRows (l.map aj.row)=l.map aj.row:=aF.frzRows aj.row_ok l
theorem ZH (l:List aj):(l.map aj.row).all (fun r=>r.all C.cellOk)=true:=aF.all aj.row_ok l
theorem Z5 (l:List aj):(l.map aj.row).all (fun r=>r.all Abs.plainCell)=true:=aF.allPlain aj.row_ok l
theorem Z9 (l:List aj):bT aj.dec (l.map aj.row)=some l:=aP aj.dec_row l
theorem ZQ (l:List ByteArray):Abs.frzRows (l.map dS)=l.map dS:=aF.frzRows Fe l
theorem ZK (l:List ByteArray):(l.map dS).all (fun r=>r.all C.cellOk)=true:=aF.all Fe l
theorem ZX (l:List ByteArray):(l.map dS).all (fun r=>r.all Abs.plainCell)=true:=aF.allPlain Fe l
theorem ZY (l:List ByteArray):bT (dJ bW) (l.map dS)=some l:=aP BM l
theorem abC (l:List aa):bT aa.decE (l.map aa.rowD)=some l:=aP aa.decE_rowD l
theorem aaV (l:List aa):bT aa.dec (l.map aa.rowD)=some l:=aP aa.dec_rowD l
attribute [go_sem] ti3 ti4 ti5 ti9 abS aaT abP abQ aau aay abo aaQ
attribute [go_sem] aax abJ aa0 aaM aa7 aaA aaK abv aaD abe aaI aaC
attribute [go_sem] abO abk abc Z1 Z7 Z6 Z8 ZF aj.row aj.eta aj.dec aj.decA
attribute [go_sem] aj.dec_row Ref.row Ref.eta Ref.dec Ref.decA Ref.dec_row Value.row Value.eta Value.dec Value.decA Value.dec_row ah.row
attribute [go_sem] ah.eta ah.dec ah.decA ah.dec_row Txn.row Txn.eta Txn.dec Txn.decA Txn.dec_row ai.rowD ai.row ai.eta
attribute [go_sem] ai.dec ai.decA ai.dec_row al.row al.eta al.dec al.decA al.dec_row aa.rowD aa.dec_rowD aa.decE aa.decE_rowD
attribute [go_sem] aa.row aa.eta aa.dec aa.decA aa.dec_row ae.row ae.eta ae.dec ae.decA ae.dec_row aR.row aR.eta
attribute [go_sem] aR.dec aR.decA aR.dec_row aD.row aD.eta aD.dec aD.decA aD.dec_row ay.row ay.eta ay.dec ay.decA
attribute [go_sem] ay.dec_row X8 Yj YL XU aa2 aa3 abi abf aaO aav aa4
attribute [go_sem] abM abg abG abA aaF aaJ abN aa1 aa6 abj aaR abn
attribute [go_sem] abw abz aaz abB aaS abr abU abp aby aaN abt aa5
attribute [go_sem] aaZ abF abK aaL aaU aaP abx abb abD ZG aac ZD
attribute [go_sem] ZE aab ZH Z5 Z9 ZQ ZK ZX ZY abC aaV
end Go.Proofs.YtmacaidmhchpgaaGreat
