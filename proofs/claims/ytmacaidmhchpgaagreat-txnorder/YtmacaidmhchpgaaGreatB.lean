/- Tables of readings and contracts. No statement. -/
import Derived.Test.YtmacaidmhchpgaaGreatM
import Derived.Test.YtmacaidmhchpgaaGreatChecked
import Derived.KernelRfl
/- What the kernel reckons of the program. -/
set_option maxHeartbeats 40000000
set_option synthInstance.maxHeartbeats 2000000
set_option synthInstance.maxSize 4000
set_option linter.unusedSimpArgs false
set_option linter.unusedVariables false
set_option maxRecDepth 100000
namespace Go.Proofs.YtmacaidmhchpgaaGreat
open Go Go.Proofs Go.Abs Tryz
theorem mix:prog.follows .mixedOrders=true:=by kernel_rfl
theorem ti3:fb prog 3=some { size:=1,agg:=false,bytes:=8,zero:=[.int .i64 0],eqs:=[],kind:=.int .i64 }:=by kernel_rfl
theorem ti4:fb prog 4=some { size:=1,agg:=false,bytes:=1,zero:=[.bool false],eqs:=[],kind:=.bool }:=by kernel_rfl
theorem ti5:fb prog 5=some { size:=1,agg:=false,bytes:=1,zero:=[.int .u8 0],eqs:=[],kind:=.int .u8 }:=by kernel_rfl
theorem ti9:fb prog 9=some { size:=1,agg:=false,bytes:=16,zero:=[.string ⟨#[]⟩],eqs:=[],kind:=.str }:=by kernel_rfl
theorem aa9:fb prog 22=some { size:=1,agg:=false,bytes:=24,zero:=[.slice none 0 0],eqs:=[],kind:=.slice 33 4 }:=by kernel_rfl
theorem Z3:fb prog 24=some { size:=1,agg:=false,bytes:=24,zero:=[.slice none 0 0],eqs:=[],kind:=.slice 40 11 }:=by kernel_rfl
theorem aab:fb prog 25=some { size:=1,agg:=false,bytes:=24,zero:=[.slice none 0 0],eqs:=[],kind:=.slice 100 4 }:=by kernel_rfl
theorem aaU:fb prog 26=some { size:=1,agg:=false,bytes:=24,zero:=[.slice none 0 0],eqs:=[],kind:=.slice 67 3 }:=by kernel_rfl
theorem aaX:fb prog 28=some { size:=3,agg:=true,bytes:=72,zero:=[.slice none 0 0,.slice none 0 0,.slice none 0 0],eqs:=[],kind:=.struct [(0,24),(1,25),(2,26)] }:=by kernel_rfl
theorem aai:fb prog 29=some { size:=1,agg:=false,bytes:=24,zero:=[.slice none 0 0],eqs:=[],kind:=.slice 45 9 }:=by kernel_rfl
theorem aat:fb prog 33=some { size:=4,agg:=true,bytes:=16,zero:=[.int .u8 0,.int .u8 0,.int .u8 0,.int .i64 0],eqs:=[.int,.int,.int,.int],kind:=.struct [(0,5),(1,5),(2,5),(3,3)] }:=by kernel_rfl
theorem abc:fb prog 34=some { size:=1,agg:=false,bytes:=24,zero:=[.slice none 0 0],eqs:=[],kind:=.slice 72 4 }:=by kernel_rfl
theorem aa8:fb prog 35=some { size:=1,agg:=false,bytes:=24,zero:=[.slice none 0 0],eqs:=[],kind:=.slice 3 1 }:=by kernel_rfl
theorem ZZ:fb prog 36=some { size:=1,agg:=false,bytes:=24,zero:=[.slice none 0 0],eqs:=[],kind:=.slice 9 1 }:=by kernel_rfl
theorem aaG:fb prog 38=some { size:=5,agg:=true,bytes:=80,zero:=[.int .i64 0,.int .i64 0,.string ⟨#[]⟩,.slice none 0 0,.slice none 0 0],eqs:=[],kind:=.struct [(0,3),(1,3),(2,9),(3,35),(4,36)] }:=by kernel_rfl
theorem aar:fb prog 40=some { size:=11,agg:=true,bytes:=152,zero:=[.int .i64 0,.int .i64 0,.string ⟨#[]⟩,.int .i64 0,.slice none 0 0,.int .i64 0,.int .i64 0,.int .i64 0,.string ⟨#[]⟩,.slice none 0 0,.slice none 0 0],eqs:=[],kind:=.struct [(0,3),(1,3),(2,9),(3,3),(4,34),(5,3),(6,38)] }:=by kernel_rfl
theorem aax:fb prog 43=some { size:=1,agg:=false,bytes:=24,zero:=[.slice none 0 0],eqs:=[],kind:=.slice 58 3 }:=by kernel_rfl
theorem aan:fb prog 45=some { size:=9,agg:=true,bytes:=136,zero:=[.int .i64 0,.string ⟨#[]⟩,.int .i64 0,.int .i64 0,.int .i64 0,.string ⟨#[]⟩,.slice none 0 0,.slice none 0 0,.slice none 0 0],eqs:=[],kind:=.struct [(0,3),(1,9),(2,3),(3,38),(8,43)] }:=by kernel_rfl
theorem aay:fb prog 46=some { size:=1,agg:=false,bytes:=24,zero:=[.slice none 0 0],eqs:=[],kind:=.slice 52 2 }:=by kernel_rfl
theorem aah:fb prog 49=some { size:=1,agg:=false,bytes:=24,zero:=[.slice none 0 0],eqs:=[],kind:=.slice 55 3 }:=by kernel_rfl
theorem aba:fb prog 52=some { size:=2,agg:=true,bytes:=32,zero:=[.string ⟨#[]⟩,.string ⟨#[]⟩],eqs:=[.str,.str],kind:=.struct [(0,9),(1,9)] }:=by kernel_rfl
theorem aaz:fb prog 53=some { size:=1,agg:=false,bytes:=24,zero:=[.slice none 0 0],eqs:=[],kind:=.slice 38 5 }:=by kernel_rfl
theorem aaj:fb prog 55=some { size:=3,agg:=true,bytes:=40,zero:=[.int .i64 0,.slice none 0 0,.bool false],eqs:=[],kind:=.struct [(0,3),(1,53),(2,4)] }:=by kernel_rfl
theorem aa4:fb prog 58=some { size:=3,agg:=true,bytes:=56,zero:=[.string ⟨#[]⟩,.string ⟨#[]⟩,.slice none 0 0],eqs:=[],kind:=.struct [(0,52),(2,53)] }:=by kernel_rfl
theorem aa0:fb prog 63=some { size:=1,agg:=false,bytes:=8,zero:=[.int .i64 0],eqs:=[],kind:=.int .i64 }:=by kernel_rfl
theorem abg:fb prog 67=some { size:=3,agg:=true,bytes:=56,zero:=[.string ⟨#[]⟩,.string ⟨#[]⟩,.slice none 0 0],eqs:=[],kind:=.struct [(0,52),(2,49)] }:=by kernel_rfl
theorem abe:fb prog 72=some { size:=4,agg:=true,bytes:=72,zero:=[.string ⟨#[]⟩,.string ⟨#[]⟩,.string ⟨#[]⟩,.slice none 0 0],eqs:=[],kind:=.struct [(0,52),(2,9),(3,53)] }:=by kernel_rfl
theorem Zm:fb prog 100=some { size:=4,agg:=true,bytes:=64,zero:=[.string ⟨#[]⟩,.string ⟨#[]⟩,.int .i64 0,.slice none 0 0],eqs:=[],kind:=.struct [(0,52),(2,3),(3,35)] }:=by kernel_rfl
theorem Zu:fb prog 103=some { size:=1,agg:=false,bytes:=24,zero:=[.slice none 0 0],eqs:=[],kind:=.slice 156 3 }:=by kernel_rfl
theorem Zi:fb prog 136=some { size:=1,agg:=false,bytes:=8,zero:=[.int .u64 0],eqs:=[],kind:=.int .u64 }:=by kernel_rfl
theorem Y7:fb prog 156=some { size:=3,agg:=true,bytes:=40,zero:=[.string ⟨#[]⟩,.string ⟨#[]⟩,.int .i64 0],eqs:=[.str,.str,.int],kind:=.struct [(0,52),(2,3)] }:=by kernel_rfl
theorem Zl:fb prog 188=some { size:=1,agg:=false,bytes:=8,zero:=[.int .u64 0],eqs:=[],kind:=.int .u64 }:=by kernel_rfl
theorem aaF (l:List Int):Abs.frzRows (l.map (aA .i64))=l.map (aA .i64):=ar.frzRows (mV .i64) l
theorem Z2 (l:List Int):(l.map (aA .i64)).all (fun r=>r.all C.cellOk)=true:=ar.all (mV .i64) l
theorem aaW (l:List Int):(l.map (aA .i64)).all (fun r=>r.all Abs.plainCell)=true:=ar.allPlain (mV .i64) l
theorem aa7 (l:List Int):de (dP (aG .i64)) (l.map (aA .i64))=some l:=aQ (zb .i64) l
theorem aao (l:List ah):Abs.frzRows (l.map ah.row)=l.map ah.row:=ar.frzRows ah.row_ok l
theorem aa2 (l:List ah):(l.map ah.row).all (fun r=>r.all C.cellOk)=true:=ar.all ah.row_ok l
theorem aa5 (l:List ah):(l.map ah.row).all (fun r=>r.all Abs.plainCell)=true:=ar.allPlain ah.row_ok l
theorem aal (l:List ah):de ah.dec (l.map ah.row)=some l:=aQ ah.dec_row l
theorem aaY (l:List aF):Abs.frzRows (l.map aF.row)=l.map aF.row:=ar.frzRows aF.row_ok l
theorem aaI (l:List aF):(l.map aF.row).all (fun r=>r.all C.cellOk)=true:=ar.all aF.row_ok l
theorem Z0 (l:List aF):(l.map aF.row).all (fun r=>r.all Abs.plainCell)=true:=ar.allPlain aF.row_ok l
theorem ZY (l:List aF):de aF.dec (l.map aF.row)=some l:=aQ aF.dec_row l
theorem aa6 (l:List al):Abs.frzRows (l.map al.row)=l.map al.row:=ar.frzRows al.row_ok l
theorem aac (l:List al):(l.map al.row).all (fun r=>r.all C.cellOk)=true:=ar.all al.row_ok l
theorem aas (l:List al):(l.map al.row).all (fun r=>r.all Abs.plainCell)=true:=ar.allPlain al.row_ok l
theorem aak (l:List al):de al.dec (l.map al.row)=some l:=aQ al.dec_row l
theorem Z1 (l:List aa):Abs.frzRows (l.map aa.row)=l.map aa.row:=ar.frzRows aa.row_ok l
theorem Z6 (l:List aa):(l.map aa.row).all (fun r=>r.all C.cellOk)=true:=ar.all aa.row_ok l
theorem abh (l:List aa):(l.map aa.row).all (fun r=>r.all Abs.plainCell)=true:=ar.allPlain aa.row_ok l
theorem aaa (l:List aa):de aa.dec (l.map aa.row)=some l:=aQ aa.dec_row l
theorem Z7 (l:List ai):Abs.frzRows (l.map ai.row)=l.map ai.row:=ar.frzRows ai.row_ok l
theorem aav (l:List ai):(l.map ai.row).all (fun r=>r.all C.cellOk)=true:=ar.all ai.row_ok l
theorem aap (l:List ai):(l.map ai.row).all (fun r=>r.all Abs.plainCell)=true:=ar.allPlain ai.row_ok l
theorem Z9 (l:List ai):de ai.dec (l.map ai.row)=some l:=aQ ai.dec_row l
theorem aa3 (l:List az):Abs.frzRows (l.map az.row)=l.map az.row:=ar.frzRows az.row_ok l
theorem aae (l:List az):(l.map az.row).all (fun r=>r.all C.cellOk)=true:=ar.all az.row_ok l
theorem aaC (l:List az):(l.map az.row).all (fun r=>r.all Abs.plainCell)=true:=ar.allPlain az.row_ok l
theorem aaq (l:List az):de az.dec (l.map az.row)=some l:=aQ az.dec_row l
theorem aam (l:List Ref):Abs.frzRows (l.map Ref.row)=l.map Ref.row:=ar.frzRows Ref.row_ok l
theorem aaw (l:List Ref):(l.map Ref.row).all (fun r=>r.all C.cellOk)=true:=ar.all Ref.row_ok l
theorem aaJ (l:List Ref):(l.map Ref.row).all (fun r=>r.all Abs.plainCell)=true:=ar.allPlain Ref.row_ok l
theorem abd (l:List Ref):de Ref.dec (l.map Ref.row)=some l:=aQ Ref.dec_row l
theorem aaE (l:List Txn):Abs.frzRows (l.map Txn.row)=l.map Txn.row:=ar.frzRows Txn.row_ok l
theorem aaf (l:List Txn):(l.map Txn.row).all (fun r=>r.all C.cellOk)=true:=ar.all Txn.row_ok l
theorem aaL (l:List Txn):(l.map Txn.row).all (fun r=>r.all Abs.plainCell)=true:=ar.allPlain Txn.row_ok l
theorem Z8 (l:List Txn):de Txn.dec (l.map Txn.row)=some l:=aQ Txn.dec_row l
theorem aaP (l:List Value):Abs.frzRows (l.map Value.row)=l.map Value.row:=ar.frzRows Value.row_ok l
theorem ZX (l:List Value):(l.map Value.row).all (fun r=>r.all C.cellOk)=true:=ar.all Value.row_ok l
theorem abi (l:List Value):(l.map Value.row).all (fun r=>r.all Abs.plainCell)=true:=ar.allPlain Value.row_ok l
theorem abf (l:List Value):de Value.dec (l.map Value.row)=some l:=aQ Value.dec_row l
theorem ZE (l:List aU):Abs.frzRows (l.map aU.row)=l.map aU.row:=ar.frzRows aU.row_ok l
theorem Zv (l:List aU):(l.map aU.row).all (fun r=>r.all C.cellOk)=true:=ar.all aU.row_ok l
theorem Zr (l:List aU):(l.map aU.row).all (fun r=>r.all Abs.plainCell)=true:=ar.allPlain aU.row_ok l
theorem Zd (l:List aU):de aU.dec (l.map aU.row)=some l:=aQ aU.dec_row l
theorem ZB (l:List aj):Abs.frzRows (l.map aj.row)=l.map aj.row:=ar.frzRows aj.row_ok l
theorem Zq (l:List aj):(l.map aj.row).all (fun r=>r.all C.cellOk)=true:=ar.all aj.row_ok l
theorem Zy (l:List aj):(l.map aj.row).all (fun r=>r.all Abs.plainCell)=true:=ar.allPlain aj.row_ok l
theorem Y8 (l:List aj):de aj.dec (l.map aj.row)=some l:=aQ aj.dec_row l
theorem Zc (l:List ByteArray):Abs.frzRows (l.map eD)=l.map eD:=ar.frzRows Fw l
theorem Zh (l:List ByteArray):(l.map eD).all (fun r=>r.all C.cellOk)=true:=ar.all Fw l
theorem Zo (l:List ByteArray):(l.map eD).all (fun r=>r.all Abs.plainCell)=true:=ar.allPlain Fw l
theorem Zn (l:List ByteArray):de (dP du) (l.map eD)=some l:=aQ B1 l
theorem aaT (l:List aa):de aa.decE (l.map aa.rowD)=some l:=aQ aa.decE_rowD l
theorem aad (l:List aa):de aa.dec (l.map aa.rowD)=some l:=aQ aa.dec_rowD l
attribute [go_sem] ti3 ti4 ti5 ti9 aa9 Z3 aab aaU aaX aai aat abc
attribute [go_sem] aa8 ZZ aaG aar aax aan aay aah aba aaz aaj aa4
attribute [go_sem] aa0 abg abe Zm Zu Zi Y7 Zl aj.row aj.eta aj.dec aj.decA
attribute [go_sem] aj.dec_row Ref.row Ref.eta Ref.dec Ref.decA Ref.dec_row Value.row Value.eta Value.dec Value.decA Value.dec_row ah.row
attribute [go_sem] ah.eta ah.dec ah.decA ah.dec_row Txn.row Txn.eta Txn.dec Txn.decA Txn.dec_row ai.rowD ai.row ai.eta
attribute [go_sem] ai.dec ai.decA ai.dec_row al.row al.eta al.dec al.decA al.dec_row aa.rowD aa.dec_rowD aa.decE aa.decE_rowD
attribute [go_sem] aa.row aa.eta aa.dec aa.decA aa.dec_row ae.row ae.eta ae.dec ae.decA ae.dec_row aU.row aU.eta
attribute [go_sem] aU.dec aU.decA aU.dec_row aF.row aF.eta aF.dec aF.decA aF.dec_row az.row az.eta az.dec az.decA
attribute [go_sem] az.dec_row Xf XU XG Xn aaF Z2 aaW aa7 aao aa2 aa5
attribute [go_sem] aal aaY aaI Z0 ZY aa6 aac aas aak Z1 Z6 abh
attribute [go_sem] aaa Z7 aav aap Z9 aa3 aae aaC aaq aam aaw aaJ
attribute [go_sem] abd aaE aaf aaL Z8 aaP ZX abi abf ZE Zv Zr
attribute [go_sem] Zd ZB Zq Zy Y8 Zc Zh Zo Zn aaT aad
end Go.Proofs.YtmacaidmhchpgaaGreat
