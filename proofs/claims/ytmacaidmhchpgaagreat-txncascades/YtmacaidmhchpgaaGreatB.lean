/- Tables of readings and contracts. No statement. -/
import Derived.Test.YtmacaidmhchpgaaGreatM
import Derived.Test.YtmacaidmhchpgaaGreatChecked
import Derived.KernelRfl
/- What the kernel reckons of the program. -/
set_option maxHeartbeats 40000000
set_option synthInstance.maxHeartbeats 2000000
set_option synthInstance.maxSize 4000
set_option linter.unusedSimpArgs false
set_option linter.unusedVariables false
set_option maxRecDepth 100000
namespace Go.Proofs.YtmacaidmhchpgaaGreat
open Go Go.Proofs Go.Abs Tryz
theorem mix:prog.follows .mixedOrders=true:=by kernel_rfl
theorem ti3:eB prog 3=some { size:=1,agg:=false,bytes:=8,zero:=[.int .i64 0],eqs:=[],kind:=.int .i64 }:=by kernel_rfl
theorem ti4:eB prog 4=some { size:=1,agg:=false,bytes:=1,zero:=[.bool false],eqs:=[],kind:=.bool }:=by kernel_rfl
theorem ti5:eB prog 5=some { size:=1,agg:=false,bytes:=1,zero:=[.int .u8 0],eqs:=[],kind:=.int .u8 }:=by kernel_rfl
theorem ti9:eB prog 9=some { size:=1,agg:=false,bytes:=16,zero:=[.string ⟨#[]⟩],eqs:=[],kind:=.str }:=by kernel_rfl
theorem abo:eB prog 22=some { size:=1,agg:=false,bytes:=24,zero:=[.slice none 0 0],eqs:=[],kind:=.slice 33 4 }:=by kernel_rfl
theorem abk:eB prog 24=some { size:=1,agg:=false,bytes:=24,zero:=[.slice none 0 0],eqs:=[],kind:=.slice 40 11 }:=by kernel_rfl
theorem abl:eB prog 25=some { size:=1,agg:=false,bytes:=24,zero:=[.slice none 0 0],eqs:=[],kind:=.slice 100 4 }:=by kernel_rfl
theorem abn:eB prog 26=some { size:=1,agg:=false,bytes:=24,zero:=[.slice none 0 0],eqs:=[],kind:=.slice 67 3 }:=by kernel_rfl
theorem abV:eB prog 28=some { size:=3,agg:=true,bytes:=72,zero:=[.slice none 0 0,.slice none 0 0,.slice none 0 0],eqs:=[],kind:=.struct [(0,24),(1,25),(2,26)] }:=by kernel_rfl
theorem abi:eB prog 29=some { size:=1,agg:=false,bytes:=24,zero:=[.slice none 0 0],eqs:=[],kind:=.slice 45 9 }:=by kernel_rfl
theorem abU:eB prog 33=some { size:=4,agg:=true,bytes:=16,zero:=[.int .u8 0,.int .u8 0,.int .u8 0,.int .i64 0],eqs:=[.int,.int,.int,.int],kind:=.struct [(0,5),(1,5),(2,5),(3,3)] }:=by kernel_rfl
theorem aa5:eB prog 34=some { size:=1,agg:=false,bytes:=24,zero:=[.slice none 0 0],eqs:=[],kind:=.slice 72 4 }:=by kernel_rfl
theorem aaZ:eB prog 35=some { size:=1,agg:=false,bytes:=24,zero:=[.slice none 0 0],eqs:=[],kind:=.slice 3 1 }:=by kernel_rfl
theorem abA:eB prog 36=some { size:=1,agg:=false,bytes:=24,zero:=[.slice none 0 0],eqs:=[],kind:=.slice 9 1 }:=by kernel_rfl
theorem ab2:eB prog 38=some { size:=5,agg:=true,bytes:=80,zero:=[.int .i64 0,.int .i64 0,.string ⟨#[]⟩,.slice none 0 0,.slice none 0 0],eqs:=[],kind:=.struct [(0,3),(1,3),(2,9),(3,35),(4,36)] }:=by kernel_rfl
theorem aaV:eB prog 40=some { size:=11,agg:=true,bytes:=152,zero:=[.int .i64 0,.int .i64 0,.string ⟨#[]⟩,.int .i64 0,.slice none 0 0,.int .i64 0,.int .i64 0,.int .i64 0,.string ⟨#[]⟩,.slice none 0 0,.slice none 0 0],eqs:=[],kind:=.struct [(0,3),(1,3),(2,9),(3,3),(4,34),(5,3),(6,38)] }:=by kernel_rfl
theorem abM:eB prog 43=some { size:=1,agg:=false,bytes:=24,zero:=[.slice none 0 0],eqs:=[],kind:=.slice 58 3 }:=by kernel_rfl
theorem ab8:eB prog 45=some { size:=9,agg:=true,bytes:=136,zero:=[.int .i64 0,.string ⟨#[]⟩,.int .i64 0,.int .i64 0,.int .i64 0,.string ⟨#[]⟩,.slice none 0 0,.slice none 0 0,.slice none 0 0],eqs:=[],kind:=.struct [(0,3),(1,9),(2,3),(3,38),(8,43)] }:=by kernel_rfl
theorem aa9:eB prog 46=some { size:=1,agg:=false,bytes:=24,zero:=[.slice none 0 0],eqs:=[],kind:=.slice 52 2 }:=by kernel_rfl
theorem aaS:eB prog 49=some { size:=1,agg:=false,bytes:=24,zero:=[.slice none 0 0],eqs:=[],kind:=.slice 55 3 }:=by kernel_rfl
theorem abt:eB prog 52=some { size:=2,agg:=true,bytes:=32,zero:=[.string ⟨#[]⟩,.string ⟨#[]⟩],eqs:=[.str,.str],kind:=.struct [(0,9),(1,9)] }:=by kernel_rfl
theorem aci:eB prog 53=some { size:=1,agg:=false,bytes:=24,zero:=[.slice none 0 0],eqs:=[],kind:=.slice 38 5 }:=by kernel_rfl
theorem abJ:eB prog 55=some { size:=3,agg:=true,bytes:=40,zero:=[.int .i64 0,.slice none 0 0,.bool false],eqs:=[],kind:=.struct [(0,3),(1,53),(2,4)] }:=by kernel_rfl
theorem abD:eB prog 58=some { size:=3,agg:=true,bytes:=56,zero:=[.string ⟨#[]⟩,.string ⟨#[]⟩,.slice none 0 0],eqs:=[],kind:=.struct [(0,52),(2,53)] }:=by kernel_rfl
theorem abc:eB prog 63=some { size:=1,agg:=false,bytes:=8,zero:=[.int .i64 0],eqs:=[],kind:=.int .i64 }:=by kernel_rfl
theorem acb:eB prog 67=some { size:=3,agg:=true,bytes:=56,zero:=[.string ⟨#[]⟩,.string ⟨#[]⟩,.slice none 0 0],eqs:=[],kind:=.struct [(0,52),(2,49)] }:=by kernel_rfl
theorem abx:eB prog 72=some { size:=4,agg:=true,bytes:=72,zero:=[.string ⟨#[]⟩,.string ⟨#[]⟩,.string ⟨#[]⟩,.slice none 0 0],eqs:=[],kind:=.struct [(0,52),(2,9),(3,53)] }:=by kernel_rfl
theorem aai:eB prog 100=some { size:=4,agg:=true,bytes:=64,zero:=[.string ⟨#[]⟩,.string ⟨#[]⟩,.int .i64 0,.slice none 0 0],eqs:=[],kind:=.struct [(0,52),(2,3),(3,35)] }:=by kernel_rfl
theorem aaj:eB prog 103=some { size:=1,agg:=false,bytes:=24,zero:=[.slice none 0 0],eqs:=[],kind:=.slice 156 3 }:=by kernel_rfl
theorem Z7:eB prog 136=some { size:=1,agg:=false,bytes:=8,zero:=[.int .u64 0],eqs:=[],kind:=.int .u64 }:=by kernel_rfl
theorem aaA:eB prog 156=some { size:=3,agg:=true,bytes:=40,zero:=[.string ⟨#[]⟩,.string ⟨#[]⟩,.int .i64 0],eqs:=[.str,.str,.int],kind:=.struct [(0,52),(2,3)] }:=by kernel_rfl
theorem aao:eB prog 188=some { size:=1,agg:=false,bytes:=8,zero:=[.int .u64 0],eqs:=[],kind:=.int .u64 }:=by kernel_rfl
theorem abw (l:List Int):Abs.frzRows (l.map (ay .i64))=l.map (ay .i64):=aF.frzRows (mA .i64) l
theorem ab5 (l:List Int):(l.map (ay .i64)).all (fun r=>r.all C.cellOk)=true:=aF.all (mA .i64) l
theorem aa3 (l:List Int):(l.map (ay .i64)).all (fun r=>r.all Abs.plainCell)=true:=aF.allPlain (mA .i64) l
theorem abW (l:List Int):bT (dp (aG .i64)) (l.map (ay .i64))=some l:=aP (zl .i64) l
theorem abd (l:List ah):Abs.frzRows (l.map ah.row)=l.map ah.row:=aF.frzRows ah.row_ok l
theorem aaY (l:List ah):(l.map ah.row).all (fun r=>r.all C.cellOk)=true:=aF.all ah.row_ok l
theorem ab1 (l:List ah):(l.map ah.row).all (fun r=>r.all Abs.plainCell)=true:=aF.allPlain ah.row_ok l
theorem ab0 (l:List ah):bT ah.dec (l.map ah.row)=some l:=aP ah.dec_row l
theorem ach (l:List aD):Abs.frzRows (l.map aD.row)=l.map aD.row:=aF.frzRows aD.row_ok l
theorem aa4 (l:List aD):(l.map aD.row).all (fun r=>r.all C.cellOk)=true:=aF.all aD.row_ok l
theorem aaX (l:List aD):(l.map aD.row).all (fun r=>r.all Abs.plainCell)=true:=aF.allPlain aD.row_ok l
theorem abq (l:List aD):bT aD.dec (l.map aD.row)=some l:=aP aD.dec_row l
theorem abu (l:List al):Abs.frzRows (l.map al.row)=l.map al.row:=aF.frzRows al.row_ok l
theorem abR (l:List al):(l.map al.row).all (fun r=>r.all C.cellOk)=true:=aF.all al.row_ok l
theorem abH (l:List al):(l.map al.row).all (fun r=>r.all Abs.plainCell)=true:=aF.allPlain al.row_ok l
theorem abf (l:List al):bT al.dec (l.map al.row)=some l:=aP al.dec_row l
theorem abC (l:List aa):Abs.frzRows (l.map aa.row)=l.map aa.row:=aF.frzRows aa.row_ok l
theorem aa1 (l:List aa):(l.map aa.row).all (fun r=>r.all C.cellOk)=true:=aF.all aa.row_ok l
theorem abm (l:List aa):(l.map aa.row).all (fun r=>r.all Abs.plainCell)=true:=aF.allPlain aa.row_ok l
theorem aby (l:List aa):bT aa.dec (l.map aa.row)=some l:=aP aa.dec_row l
theorem abP (l:List ai):Abs.frzRows (l.map ai.row)=l.map ai.row:=aF.frzRows ai.row_ok l
theorem ab3 (l:List ai):(l.map ai.row).all (fun r=>r.all C.cellOk)=true:=aF.all ai.row_ok l
theorem aa8 (l:List ai):(l.map ai.row).all (fun r=>r.all Abs.plainCell)=true:=aF.allPlain ai.row_ok l
theorem abI (l:List ai):bT ai.dec (l.map ai.row)=some l:=aP ai.dec_row l
theorem abZ (l:List az):Abs.frzRows (l.map az.row)=l.map az.row:=aF.frzRows az.row_ok l
theorem ab7 (l:List az):(l.map az.row).all (fun r=>r.all C.cellOk)=true:=aF.all az.row_ok l
theorem abE (l:List az):(l.map az.row).all (fun r=>r.all Abs.plainCell)=true:=aF.allPlain az.row_ok l
theorem abp (l:List az):bT az.dec (l.map az.row)=some l:=aP az.dec_row l
theorem abF (l:List Ref):Abs.frzRows (l.map Ref.row)=l.map Ref.row:=aF.frzRows Ref.row_ok l
theorem abz (l:List Ref):(l.map Ref.row).all (fun r=>r.all C.cellOk)=true:=aF.all Ref.row_ok l
theorem abN (l:List Ref):(l.map Ref.row).all (fun r=>r.all Abs.plainCell)=true:=aF.allPlain Ref.row_ok l
theorem acd (l:List Ref):bT Ref.dec (l.map Ref.row)=some l:=aP Ref.dec_row l
theorem abK (l:List Txn):Abs.frzRows (l.map Txn.row)=l.map Txn.row:=aF.frzRows Txn.row_ok l
theorem abe (l:List Txn):(l.map Txn.row).all (fun r=>r.all C.cellOk)=true:=aF.all Txn.row_ok l
theorem aa6 (l:List Txn):(l.map Txn.row).all (fun r=>r.all Abs.plainCell)=true:=aF.allPlain Txn.row_ok l
theorem acf (l:List Txn):bT Txn.dec (l.map Txn.row)=some l:=aP Txn.dec_row l
theorem ab6 (l:List Value):Abs.frzRows (l.map Value.row)=l.map Value.row:=aF.frzRows Value.row_ok l
theorem aba (l:List Value):(l.map Value.row).all (fun r=>r.all C.cellOk)=true:=aF.all Value.row_ok l
theorem abj (l:List Value):(l.map Value.row).all (fun r=>r.all Abs.plainCell)=true:=aF.allPlain Value.row_ok l
theorem aaU (l:List Value):bT Value.dec (l.map Value.row)=some l:=aP Value.dec_row l
theorem aax (l:List aS):Abs.frzRows (l.map aS.row)=l.map aS.row:=aF.frzRows aS.row_ok l
theorem aaf (l:List aS):(l.map aS.row).all (fun r=>r.all C.cellOk)=true:=aF.all aS.row_ok l
theorem aaF (l:List aS):(l.map aS.row).all (fun r=>r.all Abs.plainCell)=true:=aF.allPlain aS.row_ok l
theorem Z2 (l:List aS):bT aS.dec (l.map aS.row)=some l:=aP aS.dec_row l
theorem aar (l:List aj):Abs.frzRows (l.map aj.row)=l.map aj.row:=aF.frzRows aj.row_ok l
theorem aaC (l:List aj):(l.map aj.row).all (fun r=>r.all C.cellOk)=true:=aF.all aj.row_ok l
theorem aal (l:List aj):(l.map aj.row).all (fun r=>r.all Abs.plainCell)=true:=aF.allPlain aj.row_ok l
theorem aam (l:List aj):bT aj.dec (l.map aj.row)=some l:=aP aj.dec_row l
theorem aah (l:List ByteArray):Abs.frzRows (l.map dB)=l.map dB:=aF.frzRows FU l
theorem aaH (l:List ByteArray):(l.map dB).all (fun r=>r.all C.cellOk)=true:=aF.all FU l
theorem aat (l:List ByteArray):(l.map dB).all (fun r=>r.all Abs.plainCell)=true:=aF.allPlain FU l
theorem Z9 (l:List ByteArray):bT (dp bR) (l.map dB)=some l:=aP BA l
theorem aaW (l:List aa):bT aa.decE (l.map aa.rowD)=some l:=aP aa.decE_rowD l
theorem aaT (l:List aa):bT aa.dec (l.map aa.rowD)=some l:=aP aa.dec_rowD l
attribute [go_sem] ti3 ti4 ti5 ti9 abo abk abl abn abV abi abU aa5
attribute [go_sem] aaZ abA ab2 aaV abM ab8 aa9 aaS abt aci abJ abD
attribute [go_sem] abc acb abx aai aaj Z7 aaA aao aj.row aj.eta aj.dec aj.decA
attribute [go_sem] aj.dec_row Ref.row Ref.eta Ref.dec Ref.decA Ref.dec_row Value.row Value.eta Value.dec Value.decA Value.dec_row ah.row
attribute [go_sem] ah.eta ah.dec ah.decA ah.dec_row Txn.row Txn.eta Txn.dec Txn.decA Txn.dec_row ai.rowD ai.row ai.eta
attribute [go_sem] ai.dec ai.decA ai.dec_row al.row al.eta al.dec al.decA al.dec_row aa.rowD aa.dec_rowD aa.decE aa.decE_rowD
attribute [go_sem] aa.row aa.eta aa.dec aa.decA aa.dec_row ae.row ae.eta ae.dec ae.decA ae.dec_row aS.row aS.eta
attribute [go_sem] aS.dec aS.decA aS.dec_row aD.row aD.eta aD.dec aD.decA aD.dec_row az.row az.eta az.dec az.decA
attribute [go_sem] az.dec_row YA YO Y3 YS abw ab5 aa3 abW abd aaY ab1
attribute [go_sem] ab0 ach aa4 aaX abq abu abR abH abf abC aa1 abm
attribute [go_sem] aby abP ab3 aa8 abI abZ ab7 abE abp abF abz abN
attribute [go_sem] acd abK abe aa6 acf ab6 aba abj aaU aax aaf aaF
attribute [go_sem] Z2 aar aaC aal aam aah aaH aat Z9 aaW aaT
end Go.Proofs.YtmacaidmhchpgaaGreat
