/- Tables of readings and contracts. No statement. -/
import Derived.Test.YtmacaidmhchpgaaGreatM
import Derived.Test.YtmacaidmhchpgaaGreatChecked
import Derived.KernelRfl
/- What the kernel reckons of the program. -/
set_option maxHeartbeats 40000000
set_option synthInstance.maxHeartbeats 2000000
set_option synthInstance.maxSize 4000
set_option linter.unusedSimpArgs false
set_option linter.unusedVariables false
set_option maxRecDepth 100000
namespace Go.Proofs.YtmacaidmhchpgaaGreat
open Go Go.Proofs Go.Abs
theorem mix:Tryz.prog.follows .mixedOrders=true:=by kernel_rfl
theorem ti3:fa Tryz.prog 3=some { size:=1,agg:=false,bytes:=8,zero:=[.int .i64 0],eqs:=[],kind:=.int .i64 }:=by kernel_rfl
theorem ti4:fa Tryz.prog 4=some { size:=1,agg:=false,bytes:=1,zero:=[.bool false],eqs:=[],kind:=.bool }:=by kernel_rfl
theorem ti5:fa Tryz.prog 5=some { size:=1,agg:=false,bytes:=1,zero:=[.int .u8 0],eqs:=[],kind:=.int .u8 }:=by kernel_rfl
theorem ti9:fa Tryz.prog 9=some { size:=1,agg:=false,bytes:=16,zero:=[.string ⟨#[]⟩],eqs:=[],kind:=.str }:=by kernel_rfl
theorem aaG:fa Tryz.prog 22=some { size:=1,agg:=false,bytes:=24,zero:=[.slice none 0 0],eqs:=[],kind:=.slice 33 4 }:=by kernel_rfl
theorem ZU:fa Tryz.prog 24=some { size:=1,agg:=false,bytes:=24,zero:=[.slice none 0 0],eqs:=[],kind:=.slice 40 11 }:=by kernel_rfl
theorem Z2:fa Tryz.prog 25=some { size:=1,agg:=false,bytes:=24,zero:=[.slice none 0 0],eqs:=[],kind:=.slice 100 4 }:=by kernel_rfl
theorem Z7:fa Tryz.prog 26=some { size:=1,agg:=false,bytes:=24,zero:=[.slice none 0 0],eqs:=[],kind:=.slice 67 3 }:=by kernel_rfl
theorem aaF:fa Tryz.prog 28=some { size:=3,agg:=true,bytes:=72,zero:=[.slice none 0 0,.slice none 0 0,.slice none 0 0],eqs:=[],kind:=.struct [(0,24),(1,25),(2,26)] }:=by kernel_rfl
theorem aaL:fa Tryz.prog 29=some { size:=1,agg:=false,bytes:=24,zero:=[.slice none 0 0],eqs:=[],kind:=.slice 45 9 }:=by kernel_rfl
theorem aan:fa Tryz.prog 33=some { size:=4,agg:=true,bytes:=16,zero:=[.int .u8 0,.int .u8 0,.int .u8 0,.int .i64 0],eqs:=[.int,.int,.int,.int],kind:=.struct [(0,5),(1,5),(2,5),(3,3)] }:=by kernel_rfl
theorem aar:fa Tryz.prog 34=some { size:=1,agg:=false,bytes:=24,zero:=[.slice none 0 0],eqs:=[],kind:=.slice 72 4 }:=by kernel_rfl
theorem aaE:fa Tryz.prog 35=some { size:=1,agg:=false,bytes:=24,zero:=[.slice none 0 0],eqs:=[],kind:=.slice 3 1 }:=by kernel_rfl
theorem aap:fa Tryz.prog 36=some { size:=1,agg:=false,bytes:=24,zero:=[.slice none 0 0],eqs:=[],kind:=.slice 9 1 }:=by kernel_rfl
theorem ZA:fa Tryz.prog 38=some { size:=5,agg:=true,bytes:=80,zero:=[.int .i64 0,.int .i64 0,.string ⟨#[]⟩,.slice none 0 0,.slice none 0 0],eqs:=[],kind:=.struct [(0,3),(1,3),(2,9),(3,35),(4,36)] }:=by kernel_rfl
theorem ZQ:fa Tryz.prog 40=some { size:=11,agg:=true,bytes:=152,zero:=[.int .i64 0,.int .i64 0,.string ⟨#[]⟩,.int .i64 0,.slice none 0 0,.int .i64 0,.int .i64 0,.int .i64 0,.string ⟨#[]⟩,.slice none 0 0,.slice none 0 0],eqs:=[],kind:=.struct [(0,3),(1,3),(2,9),(3,3),(4,34),(5,3),(6,38)] }:=by kernel_rfl
theorem ZZ:fa Tryz.prog 43=some { size:=1,agg:=false,bytes:=24,zero:=[.slice none 0 0],eqs:=[],kind:=.slice 58 3 }:=by kernel_rfl
theorem Z4:fa Tryz.prog 45=some { size:=9,agg:=true,bytes:=136,zero:=[.int .i64 0,.string ⟨#[]⟩,.int .i64 0,.int .i64 0,.int .i64 0,.string ⟨#[]⟩,.slice none 0 0,.slice none 0 0,.slice none 0 0],eqs:=[],kind:=.struct [(0,3),(1,9),(2,3),(3,38),(8,43)] }:=by kernel_rfl
theorem aax:fa Tryz.prog 46=some { size:=1,agg:=false,bytes:=24,zero:=[.slice none 0 0],eqs:=[],kind:=.slice 52 2 }:=by kernel_rfl
theorem ZP:fa Tryz.prog 49=some { size:=1,agg:=false,bytes:=24,zero:=[.slice none 0 0],eqs:=[],kind:=.slice 55 3 }:=by kernel_rfl
theorem Z6:fa Tryz.prog 52=some { size:=2,agg:=true,bytes:=32,zero:=[.string ⟨#[]⟩,.string ⟨#[]⟩],eqs:=[.str,.str],kind:=.struct [(0,9),(1,9)] }:=by kernel_rfl
theorem Z8:fa Tryz.prog 53=some { size:=1,agg:=false,bytes:=24,zero:=[.slice none 0 0],eqs:=[],kind:=.slice 38 5 }:=by kernel_rfl
theorem ZV:fa Tryz.prog 55=some { size:=3,agg:=true,bytes:=40,zero:=[.int .i64 0,.slice none 0 0,.bool false],eqs:=[],kind:=.struct [(0,3),(1,53),(2,4)] }:=by kernel_rfl
theorem aaU:fa Tryz.prog 58=some { size:=3,agg:=true,bytes:=56,zero:=[.string ⟨#[]⟩,.string ⟨#[]⟩,.slice none 0 0],eqs:=[],kind:=.struct [(0,52),(2,53)] }:=by kernel_rfl
theorem aaR:fa Tryz.prog 63=some { size:=1,agg:=false,bytes:=8,zero:=[.int .i64 0],eqs:=[],kind:=.int .i64 }:=by kernel_rfl
theorem aaN:fa Tryz.prog 67=some { size:=3,agg:=true,bytes:=56,zero:=[.string ⟨#[]⟩,.string ⟨#[]⟩,.slice none 0 0],eqs:=[],kind:=.struct [(0,52),(2,49)] }:=by kernel_rfl
theorem Z1:fa Tryz.prog 72=some { size:=4,agg:=true,bytes:=72,zero:=[.string ⟨#[]⟩,.string ⟨#[]⟩,.string ⟨#[]⟩,.slice none 0 0],eqs:=[],kind:=.struct [(0,52),(2,9),(3,53)] }:=by kernel_rfl
theorem Zp:fa Tryz.prog 100=some { size:=4,agg:=true,bytes:=64,zero:=[.string ⟨#[]⟩,.string ⟨#[]⟩,.int .i64 0,.slice none 0 0],eqs:=[],kind:=.struct [(0,52),(2,3),(3,35)] }:=by kernel_rfl
theorem Y9:fa Tryz.prog 103=some { size:=1,agg:=false,bytes:=24,zero:=[.slice none 0 0],eqs:=[],kind:=.slice 156 3 }:=by kernel_rfl
theorem Zf:fa Tryz.prog 136=some { size:=1,agg:=false,bytes:=8,zero:=[.int .u64 0],eqs:=[],kind:=.int .u64 }:=by kernel_rfl
theorem YO:fa Tryz.prog 156=some { size:=3,agg:=true,bytes:=40,zero:=[.string ⟨#[]⟩,.string ⟨#[]⟩,.int .i64 0],eqs:=[.str,.str,.int],kind:=.struct [(0,52),(2,3)] }:=by kernel_rfl
theorem YV:fa Tryz.prog 188=some { size:=1,agg:=false,bytes:=8,zero:=[.int .u64 0],eqs:=[],kind:=.int .u64 }:=by kernel_rfl
theorem aak (l:List Int):Abs.frzRows (l.map (aA .i64))=l.map (aA .i64):=ar.frzRows (mR .i64) l
theorem aaq (l:List Int):(l.map (aA .i64)).all (fun r=>r.all C.cellOk)=true:=ar.all (mR .i64) l
theorem aav (l:List Int):(l.map (aA .i64)).all (fun r=>r.all Abs.plainCell)=true:=ar.allPlain (mR .i64) l
theorem aaH (l:List Int):dh (eb (aG .i64)) (l.map (aA .i64))=some l:=aQ (y4 .i64) l
theorem aam (l:List ah):Abs.frzRows (l.map ah.row)=l.map ah.row:=ar.frzRows ah.row_ok l
theorem aai (l:List ah):(l.map ah.row).all (fun r=>r.all C.cellOk)=true:=ar.all ah.row_ok l
theorem aaa (l:List ah):(l.map ah.row).all (fun r=>r.all Abs.plainCell)=true:=ar.allPlain ah.row_ok l
theorem aaf (l:List ah):dh ah.dec (l.map ah.row)=some l:=aQ ah.dec_row l
theorem aae (l:List aI):Abs.frzRows (l.map aI.row)=l.map aI.row:=ar.frzRows aI.row_ok l
theorem aaA (l:List aI):(l.map aI.row).all (fun r=>r.all C.cellOk)=true:=ar.all aI.row_ok l
theorem ZG (l:List aI):(l.map aI.row).all (fun r=>r.all Abs.plainCell)=true:=ar.allPlain aI.row_ok l
theorem ZW (l:List aI):dh aI.dec (l.map aI.row)=some l:=aQ aI.dec_row l
theorem aaV (l:List al):Abs.frzRows (l.map al.row)=l.map al.row:=ar.frzRows al.row_ok l
theorem Z5 (l:List al):(l.map al.row).all (fun r=>r.all C.cellOk)=true:=ar.all al.row_ok l
theorem ZH (l:List al):(l.map al.row).all (fun r=>r.all Abs.plainCell)=true:=ar.allPlain al.row_ok l
theorem aaJ (l:List al):dh al.dec (l.map al.row)=some l:=aQ al.dec_row l
theorem ZO (l:List aa):Abs.frzRows (l.map aa.row)=l.map aa.row:=ar.frzRows aa.row_ok l
theorem ZE (l:List aa):(l.map aa.row).all (fun r=>r.all C.cellOk)=true:=ar.all aa.row_ok l
theorem aaT (l:List aa):(l.map aa.row).all (fun r=>r.all Abs.plainCell)=true:=ar.allPlain aa.row_ok l
theorem ZS (l:List aa):dh aa.dec (l.map aa.row)=some l:=aQ aa.dec_row l
theorem aaI (l:List ai):Abs.frzRows (l.map ai.row)=l.map ai.row:=ar.frzRows ai.row_ok l
theorem aac (l:List ai):(l.map ai.row).all (fun r=>r.all C.cellOk)=true:=ar.all ai.row_ok l
theorem ZI (l:List ai):(l.map ai.row).all (fun r=>r.all Abs.plainCell)=true:=ar.allPlain ai.row_ok l
theorem aay (l:List ai):dh ai.dec (l.map ai.row)=some l:=aQ ai.dec_row l
theorem aah (l:List az):Abs.frzRows (l.map az.row)=l.map az.row:=ar.frzRows az.row_ok l
theorem aal (l:List az):(l.map az.row).all (fun r=>r.all C.cellOk)=true:=ar.all az.row_ok l
theorem ZM (l:List az):(l.map az.row).all (fun r=>r.all Abs.plainCell)=true:=ar.allPlain az.row_ok l
theorem aaX (l:List az):dh az.dec (l.map az.row)=some l:=aQ az.dec_row l
theorem aau (l:List Ref):Abs.frzRows (l.map Ref.row)=l.map Ref.row:=ar.frzRows Ref.row_ok l
theorem aaP (l:List Ref):(l.map Ref.row).all (fun r=>r.all C.cellOk)=true:=ar.all Ref.row_ok l
theorem ZL (l:List Ref):(l.map Ref.row).all (fun r=>r.all Abs.plainCell)=true:=ar.allPlain Ref.row_ok l
theorem aaK (l:List Ref):dh Ref.dec (l.map Ref.row)=some l:=aQ Ref.dec_row l
theorem aag (l:List Txn):Abs.frzRows (l.map Txn.row)=l.map Txn.row:=ar.frzRows Txn.row_ok l
theorem aaS (l:List Txn):(l.map Txn.row).all (fun r=>r.all C.cellOk)=true:=ar.all Txn.row_ok l
theorem ZD (l:List Txn):(l.map Txn.row).all (fun r=>r.all Abs.plainCell)=true:=ar.allPlain Txn.row_ok l
theorem aaO (l:List Txn):dh Txn.dec (l.map Txn.row)=some l:=aQ Txn.dec_row l
theorem aad (l:List Value):Abs.frzRows (l.map Value.row)=l.map Value.row:=ar.frzRows Value.row_ok l
theorem aaj (l:List Value):(l.map Value.row).all (fun r=>r.all C.cellOk)=true:=ar.all Value.row_ok l
theorem Z3 (l:List Value):(l.map Value.row).all (fun r=>r.all Abs.plainCell)=true:=ar.allPlain Value.row_ok l
theorem aaB (l:List Value):dh Value.dec (l.map Value.row)=some l:=aQ Value.dec_row l
theorem YU (l:List aU):Abs.frzRows (l.map aU.row)=l.map aU.row:=ar.frzRows aU.row_ok l
theorem Zk (l:List aU):(l.map aU.row).all (fun r=>r.all C.cellOk)=true:=ar.all aU.row_ok l
theorem Y2 (l:List aU):(l.map aU.row).all (fun r=>r.all Abs.plainCell)=true:=ar.allPlain aU.row_ok l
theorem YZ (l:List aU):dh aU.dec (l.map aU.row)=some l:=aQ aU.dec_row l
theorem Y7 (l:List aj):Abs.frzRows (l.map aj.row)=l.map aj.row:=ar.frzRows aj.row_ok l
theorem YP (l:List aj):(l.map aj.row).all (fun r=>r.all C.cellOk)=true:=ar.all aj.row_ok l
theorem YN (l:List aj):(l.map aj.row).all (fun r=>r.all Abs.plainCell)=true:=ar.allPlain aj.row_ok l
theorem Y4 (l:List aj):dh aj.dec (l.map aj.row)=some l:=aQ aj.dec_row l
theorem YR (l:List ByteArray):Abs.frzRows (l.map ey)=l.map ey:=ar.frzRows Fl l
theorem Y3 (l:List ByteArray):(l.map ey).all (fun r=>r.all C.cellOk)=true:=ar.all Fl l
theorem Zh (l:List ByteArray):(l.map ey).all (fun r=>r.all Abs.plainCell)=true:=ar.allPlain Fl l
theorem Zi (l:List ByteArray):dh (eb du) (l.map ey)=some l:=aQ BT l
theorem ZC (l:List aa):dh aa.decE (l.map aa.rowD)=some l:=aQ aa.decE_rowD l
theorem aaD (l:List aa):dh aa.dec (l.map aa.rowD)=some l:=aQ aa.dec_rowD l
attribute [go_sem] ti3 ti4 ti5 ti9 aaG ZU Z2 Z7 aaF aaL aan aar
attribute [go_sem] aaE aap ZA ZQ ZZ Z4 aax ZP Z6 Z8 ZV aaU
attribute [go_sem] aaR aaN Z1 Zp Y9 Zf YO YV aj.row aj.eta aj.dec aj.decA
attribute [go_sem] aj.dec_row Ref.row Ref.eta Ref.dec Ref.decA Ref.dec_row Value.row Value.eta Value.dec Value.decA Value.dec_row ah.row
attribute [go_sem] ah.eta ah.dec ah.decA ah.dec_row Txn.row Txn.eta Txn.dec Txn.decA Txn.dec_row ai.rowD ai.row ai.eta
attribute [go_sem] ai.dec ai.decA ai.dec_row al.row al.eta al.dec al.decA al.dec_row aa.rowD aa.dec_rowD aa.decE aa.decE_rowD
attribute [go_sem] aa.row aa.eta aa.dec aa.decA aa.dec_row ae.row ae.eta ae.dec ae.decA ae.dec_row aU.row aU.eta
attribute [go_sem] aU.dec aU.decA aU.dec_row aI.row aI.eta aI.dec aI.decA aI.dec_row az.row az.eta az.dec az.decA
attribute [go_sem] az.dec_row W6 Xo XL XH aak aaq aav aaH aam aai aaa
attribute [go_sem] aaf aae aaA ZG ZW aaV Z5 ZH aaJ ZO ZE aaT
attribute [go_sem] ZS aaI aac ZI aay aah aal ZM aaX aau aaP ZL
attribute [go_sem] aaK aag aaS ZD aaO aad aaj Z3 aaB YU Zk Y2
attribute [go_sem] YZ Y7 YP YN Y4 YR Y3 Zh Zi ZC aaD
end Go.Proofs.YtmacaidmhchpgaaGreat
