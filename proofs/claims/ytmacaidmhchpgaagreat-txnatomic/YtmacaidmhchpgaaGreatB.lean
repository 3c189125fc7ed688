/- Tables of readings and contracts. No statement. -/
import Derived.Test.YtmacaidmhchpgaaGreatM
import Derived.Test.YtmacaidmhchpgaaGreatChecked
import Derived.KernelRfl
/- What the kernel reckons of the program. -/
set_option maxHeartbeats 40000000
set_option synthInstance.maxHeartbeats 2000000
set_option synthInstance.maxSize 4000
set_option linter.unusedSimpArgs false
set_option linter.unusedVariables false
set_option maxRecDepth 100000
namespace Go.Proofs.YtmacaidmhchpgaaGreat
open Go Go.Proofs Go.Abs Tryz
theorem mix:prog.follows .mixedOrders=true:=by kernel_rfl
theorem ti3:eA prog 3=some { size:=1,agg:=false,bytes:=8,zero:=[.int .i64 0],eqs:=[],kind:=.int .i64 }:=by kernel_rfl
theorem ti4:eA prog 4=some { size:=1,agg:=false,bytes:=1,zero:=[.bool false],eqs:=[],kind:=.bool }:=by kernel_rfl
theorem ti5:eA prog 5=some { size:=1,agg:=false,bytes:=1,zero:=[.int .u8 0],eqs:=[],kind:=.int .u8 }:=by kernel_rfl
theorem ti9:eA prog 9=some { size:=1,agg:=false,bytes:=16,zero:=[.string ⟨#[]⟩],eqs:=[],kind:=.str }:=by kernel_rfl
theorem abN:eA prog 22=some { size:=1,agg:=false,bytes:=24,zero:=[.slice none 0 0],eqs:=[],kind:=.slice 33 4 }:=by kernel_rfl
theorem abO:eA prog 24=some { size:=1,agg:=false,bytes:=24,zero:=[.slice none 0 0],eqs:=[],kind:=.slice 40 11 }:=by kernel_rfl
theorem abc:eA prog 25=some { size:=1,agg:=false,bytes:=24,zero:=[.slice none 0 0],eqs:=[],kind:=.slice 100 4 }:=by kernel_rfl
theorem abo:eA prog 26=some { size:=1,agg:=false,bytes:=24,zero:=[.slice none 0 0],eqs:=[],kind:=.slice 67 3 }:=by kernel_rfl
theorem aba:eA prog 28=some { size:=3,agg:=true,bytes:=72,zero:=[.slice none 0 0,.slice none 0 0,.slice none 0 0],eqs:=[],kind:=.struct [(0,24),(1,25),(2,26)] }:=by kernel_rfl
theorem aa3:eA prog 29=some { size:=1,agg:=false,bytes:=24,zero:=[.slice none 0 0],eqs:=[],kind:=.slice 45 9 }:=by kernel_rfl
theorem aaR:eA prog 33=some { size:=4,agg:=true,bytes:=16,zero:=[.int .u8 0,.int .u8 0,.int .u8 0,.int .i64 0],eqs:=[.int,.int,.int,.int],kind:=.struct [(0,5),(1,5),(2,5),(3,3)] }:=by kernel_rfl
theorem aaF:eA prog 34=some { size:=1,agg:=false,bytes:=24,zero:=[.slice none 0 0],eqs:=[],kind:=.slice 72 4 }:=by kernel_rfl
theorem abb:eA prog 35=some { size:=1,agg:=false,bytes:=24,zero:=[.slice none 0 0],eqs:=[],kind:=.slice 3 1 }:=by kernel_rfl
theorem abx:eA prog 36=some { size:=1,agg:=false,bytes:=24,zero:=[.slice none 0 0],eqs:=[],kind:=.slice 9 1 }:=by kernel_rfl
theorem abZ:eA prog 38=some { size:=5,agg:=true,bytes:=80,zero:=[.int .i64 0,.int .i64 0,.string ⟨#[]⟩,.slice none 0 0,.slice none 0 0],eqs:=[],kind:=.struct [(0,3),(1,3),(2,9),(3,35),(4,36)] }:=by kernel_rfl
theorem abD:eA prog 40=some { size:=11,agg:=true,bytes:=152,zero:=[.int .i64 0,.int .i64 0,.string ⟨#[]⟩,.int .i64 0,.slice none 0 0,.int .i64 0,.int .i64 0,.int .i64 0,.string ⟨#[]⟩,.slice none 0 0,.slice none 0 0],eqs:=[],kind:=.struct [(0,3),(1,3),(2,9),(3,3),(4,34),(5,3),(6,38)] }:=by kernel_rfl
theorem aaY:eA prog 43=some { size:=1,agg:=false,bytes:=24,zero:=[.slice none 0 0],eqs:=[],kind:=.slice 58 3 }:=by kernel_rfl
theorem abe:eA prog 45=some { size:=9,agg:=true,bytes:=136,zero:=[.int .i64 0,.string ⟨#[]⟩,.int .i64 0,.int .i64 0,.int .i64 0,.string ⟨#[]⟩,.slice none 0 0,.slice none 0 0,.slice none 0 0],eqs:=[],kind:=.struct [(0,3),(1,9),(2,3),(3,38),(8,43)] }:=by kernel_rfl
theorem abr:eA prog 46=some { size:=1,agg:=false,bytes:=24,zero:=[.slice none 0 0],eqs:=[],kind:=.slice 52 2 }:=by kernel_rfl
theorem abd:eA prog 49=some { size:=1,agg:=false,bytes:=24,zero:=[.slice none 0 0],eqs:=[],kind:=.slice 55 3 }:=by kernel_rfl
theorem abS:eA prog 52=some { size:=2,agg:=true,bytes:=32,zero:=[.string ⟨#[]⟩,.string ⟨#[]⟩],eqs:=[.str,.str],kind:=.struct [(0,9),(1,9)] }:=by kernel_rfl
theorem aaQ:eA prog 53=some { size:=1,agg:=false,bytes:=24,zero:=[.slice none 0 0],eqs:=[],kind:=.slice 38 5 }:=by kernel_rfl
theorem abV:eA prog 55=some { size:=3,agg:=true,bytes:=40,zero:=[.int .i64 0,.slice none 0 0,.bool false],eqs:=[],kind:=.struct [(0,3),(1,53),(2,4)] }:=by kernel_rfl
theorem abn:eA prog 58=some { size:=3,agg:=true,bytes:=56,zero:=[.string ⟨#[]⟩,.string ⟨#[]⟩,.slice none 0 0],eqs:=[],kind:=.struct [(0,52),(2,53)] }:=by kernel_rfl
theorem abk:eA prog 63=some { size:=1,agg:=false,bytes:=8,zero:=[.int .i64 0],eqs:=[],kind:=.int .i64 }:=by kernel_rfl
theorem aaO:eA prog 67=some { size:=3,agg:=true,bytes:=56,zero:=[.string ⟨#[]⟩,.string ⟨#[]⟩,.slice none 0 0],eqs:=[],kind:=.struct [(0,52),(2,49)] }:=by kernel_rfl
theorem abJ:eA prog 72=some { size:=4,agg:=true,bytes:=72,zero:=[.string ⟨#[]⟩,.string ⟨#[]⟩,.string ⟨#[]⟩,.slice none 0 0],eqs:=[],kind:=.struct [(0,52),(2,9),(3,53)] }:=by kernel_rfl
theorem aar:eA prog 100=some { size:=4,agg:=true,bytes:=64,zero:=[.string ⟨#[]⟩,.string ⟨#[]⟩,.int .i64 0,.slice none 0 0],eqs:=[],kind:=.struct [(0,52),(2,3),(3,35)] }:=by kernel_rfl
theorem ZP:eA prog 103=some { size:=1,agg:=false,bytes:=24,zero:=[.slice none 0 0],eqs:=[],kind:=.slice 156 3 }:=by kernel_rfl
theorem aaa:eA prog 136=some { size:=1,agg:=false,bytes:=8,zero:=[.int .u64 0],eqs:=[],kind:=.int .u64 }:=by kernel_rfl
theorem Z6:eA prog 156=some { size:=3,agg:=true,bytes:=40,zero:=[.string ⟨#[]⟩,.string ⟨#[]⟩,.int .i64 0],eqs:=[.str,.str,.int],kind:=.struct [(0,52),(2,3)] }:=by kernel_rfl
theorem Z2:eA prog 188=some { size:=1,agg:=false,bytes:=8,zero:=[.int .u64 0],eqs:=[],kind:=.int .u64 }:=by kernel_rfl
theorem aaD (l:List Int):Abs.frzRows (l.map (aB .i64))=l.map (aB .i64):=aF.frzRows (mo .i64) l
theorem abz (l:List Int):(l.map (aB .i64)).all (fun r=>r.all C.cellOk)=true:=aF.all (mo .i64) l
theorem abX (l:List Int):(l.map (aB .i64)).all (fun r=>r.all Abs.plainCell)=true:=aF.allPlain (mo .i64) l
theorem abf (l:List Int):bS (dq (aH .i64)) (l.map (aB .i64))=some l:=aP (za .i64) l
theorem aaM (l:List ah):Abs.frzRows (l.map ah.row)=l.map ah.row:=aF.frzRows ah.row_ok l
theorem abP (l:List ah):(l.map ah.row).all (fun r=>r.all C.cellOk)=true:=aF.all ah.row_ok l
theorem aaP (l:List ah):(l.map ah.row).all (fun r=>r.all Abs.plainCell)=true:=aF.allPlain ah.row_ok l
theorem abA (l:List ah):bS ah.dec (l.map ah.row)=some l:=aP ah.dec_row l
theorem abp (l:List aD):Abs.frzRows (l.map aD.row)=l.map aD.row:=aF.frzRows aD.row_ok l
theorem abE (l:List aD):(l.map aD.row).all (fun r=>r.all C.cellOk)=true:=aF.all aD.row_ok l
theorem aaH (l:List aD):(l.map aD.row).all (fun r=>r.all Abs.plainCell)=true:=aF.allPlain aD.row_ok l
theorem abv (l:List aD):bS aD.dec (l.map aD.row)=some l:=aP aD.dec_row l
theorem aaW (l:List al):Abs.frzRows (l.map al.row)=l.map al.row:=aF.frzRows al.row_ok l
theorem abl (l:List al):(l.map al.row).all (fun r=>r.all C.cellOk)=true:=aF.all al.row_ok l
theorem abY (l:List al):(l.map al.row).all (fun r=>r.all Abs.plainCell)=true:=aF.allPlain al.row_ok l
theorem abg (l:List al):bS al.dec (l.map al.row)=some l:=aP al.dec_row l
theorem aaL (l:List aa):Abs.frzRows (l.map aa.row)=l.map aa.row:=aF.frzRows aa.row_ok l
theorem abw (l:List aa):(l.map aa.row).all (fun r=>r.all C.cellOk)=true:=aF.all aa.row_ok l
theorem aa2 (l:List aa):(l.map aa.row).all (fun r=>r.all Abs.plainCell)=true:=aF.allPlain aa.row_ok l
theorem aa1 (l:List aa):bS aa.dec (l.map aa.row)=some l:=aP aa.dec_row l
theorem aa9 (l:List ai):Abs.frzRows (l.map ai.row)=l.map ai.row:=aF.frzRows ai.row_ok l
theorem aaX (l:List ai):(l.map ai.row).all (fun r=>r.all C.cellOk)=true:=aF.all ai.row_ok l
theorem abK (l:List ai):(l.map ai.row).all (fun r=>r.all Abs.plainCell)=true:=aF.allPlain ai.row_ok l
theorem abi (l:List ai):bS ai.dec (l.map ai.row)=some l:=aP ai.dec_row l
theorem aaC (l:List ay):Abs.frzRows (l.map ay.row)=l.map ay.row:=aF.frzRows ay.row_ok l
theorem abj (l:List ay):(l.map ay.row).all (fun r=>r.all C.cellOk)=true:=aF.all ay.row_ok l
theorem abI (l:List ay):(l.map ay.row).all (fun r=>r.all Abs.plainCell)=true:=aF.allPlain ay.row_ok l
theorem abt (l:List ay):bS ay.dec (l.map ay.row)=some l:=aP ay.dec_row l
theorem aa6 (l:List Ref):Abs.frzRows (l.map Ref.row)=l.map Ref.row:=aF.frzRows Ref.row_ok l
theorem aa5 (l:List Ref):(l.map Ref.row).all (fun r=>r.all C.cellOk)=true:=aF.all Ref.row_ok l
theorem aaU (l:List Ref):(l.map Ref.row).all (fun r=>r.all Abs.plainCell)=true:=aF.allPlain Ref.row_ok l
theorem aaJ (l:List Ref):bS Ref.dec (l.map Ref.row)=some l:=aP Ref.dec_row l
theorem abU (l:List Txn):Abs.frzRows (l.map Txn.row)=l.map Txn.row:=aF.frzRows Txn.row_ok l
theorem aa7 (l:List Txn):(l.map Txn.row).all (fun r=>r.all C.cellOk)=true:=aF.all Txn.row_ok l
theorem ab2 (l:List Txn):(l.map Txn.row).all (fun r=>r.all Abs.plainCell)=true:=aF.allPlain Txn.row_ok l
theorem aa4 (l:List Txn):bS Txn.dec (l.map Txn.row)=some l:=aP Txn.dec_row l
theorem ab0 (l:List Value):Abs.frzRows (l.map Value.row)=l.map Value.row:=aF.frzRows Value.row_ok l
theorem abB (l:List Value):(l.map Value.row).all (fun r=>r.all C.cellOk)=true:=aF.all Value.row_ok l
theorem abm (l:List Value):(l.map Value.row).all (fun r=>r.all Abs.plainCell)=true:=aF.allPlain Value.row_ok l
theorem abh (l:List Value):bS Value.dec (l.map Value.row)=some l:=aP Value.dec_row l
theorem Z8 (l:List aQ):Abs.frzRows (l.map aQ.row)=l.map aQ.row:=aF.frzRows aQ.row_ok l
theorem aam (l:List aQ):(l.map aQ.row).all (fun r=>r.all C.cellOk)=true:=aF.all aQ.row_ok l
theorem aad (l:List aQ):(l.map aQ.row).all (fun r=>r.all Abs.plainCell)=true:=aF.allPlain aQ.row_ok l
theorem ZO (l:List aQ):bS aQ.dec (l.map aQ.row)=some l:=aP aQ.dec_row l
theorem aak (l:List aj):Abs.frzRows (l.map aj.row)=l.map aj.row:=aF.frzRows aj.row_ok l
theorem Z4 (l:List aj):(l.map aj.row).all (fun r=>r.all C.cellOk)=true:=aF.all aj.row_ok l
theorem Z0 (l:List aj):(l.map aj.row).all (fun r=>r.all Abs.plainCell)=true:=aF.allPlain aj.row_ok l
theorem aah (l:List aj):bS aj.dec (l.map aj.row)=some l:=aP aj.dec_row l
theorem ZX (l:List ByteArray):Abs.frzRows (l.map dE)=l.map dE:=aF.frzRows Fv l
theorem aac (l:List ByteArray):(l.map dE).all (fun r=>r.all C.cellOk)=true:=aF.all Fv l
theorem aai (l:List ByteArray):(l.map dE).all (fun r=>r.all Abs.plainCell)=true:=aF.allPlain Fv l
theorem aaj (l:List ByteArray):bS (dq bR) (l.map dE)=some l:=aP BK l
theorem abu (l:List aa):bS aa.decE (l.map aa.rowD)=some l:=aP aa.decE_rowD l
theorem abq (l:List aa):bS aa.dec (l.map aa.rowD)=some l:=aP aa.dec_rowD l
attribute [go_sem] ti3 ti4 ti5 ti9 abN abO abc abo aba aa3 aaR aaF
attribute [go_sem] abb abx abZ abD aaY abe abr abd abS aaQ abV abn
attribute [go_sem] abk aaO abJ aar ZP aaa Z6 Z2 aj.row aj.eta aj.dec aj.decA
attribute [go_sem] aj.dec_row Ref.row Ref.eta Ref.dec Ref.decA Ref.dec_row Value.row Value.eta Value.dec Value.decA Value.dec_row ah.row
attribute [go_sem] ah.eta ah.dec ah.decA ah.dec_row Txn.row Txn.eta Txn.dec Txn.decA Txn.dec_row ai.rowD ai.row ai.eta
attribute [go_sem] ai.dec ai.decA ai.dec_row al.row al.eta al.dec al.decA al.dec_row aa.rowD aa.dec_rowD aa.decE aa.decE_rowD
attribute [go_sem] aa.row aa.eta aa.dec aa.decA aa.dec_row ae.row ae.eta ae.dec ae.decA ae.dec_row aQ.row aQ.eta
attribute [go_sem] aQ.dec aQ.decA aQ.dec_row aD.row aD.eta aD.dec aD.decA aD.dec_row ay.row ay.eta ay.dec ay.decA
attribute [go_sem] ay.dec_row YS YL Ye XY aaD abz abX abf aaM abP aaP
attribute [go_sem] abA abp abE aaH abv aaW abl abY abg aaL abw aa2
attribute [go_sem] aa1 aa9 aaX abK abi aaC abj abI abt aa6 aa5 aaU
attribute [go_sem] aaJ abU aa7 ab2 aa4 ab0 abB abm abh Z8 aam aad
attribute [go_sem] ZO aak Z4 Z0 aah ZX aac aai aaj abu abq
end Go.Proofs.YtmacaidmhchpgaaGreat
