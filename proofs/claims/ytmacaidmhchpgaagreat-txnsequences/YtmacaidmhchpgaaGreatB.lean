import Derived.Test.YtmacaidmhchpgaaGreatM
import Derived.Test.YtmacaidmhchpgaaGreatChecked
import Derived.KernelRfl
/- What the kernel reckons of the program. -/
set_option maxHeartbeats 40000000
set_option synthInstance.maxHeartbeats 2000000
set_option synthInstance.maxSize 4000
set_option linter.unusedSimpArgs false
set_option linter.unusedVariables false
set_option maxRecDepth 100000
namespace Go.Proofs.YtmacaidmhchpgaaGreat
open Go Go.Proofs Go.Abs Tryz
theorem mix:prog.follows .mixedOrders=true:=by kernel_rfl
theorem ti3:eG prog 3=some {size:=1,agg:=false,bytes:=8,zero:=[.int .i64 0],eqs:=[],kind:=.int .i64}:=by kernel_rfl
theorem ti4:eG prog 4=some {size:=1,agg:=false,bytes:=1,zero:=[.bool false],eqs:=[],kind:=.bool}:=by kernel_rfl
theorem ti5:eG prog 5=some {size:=1,agg:=false,bytes:=1,zero:=[.int .u8 0],eqs:=[],kind:=.int .u8}:=by kernel_rfl
theorem ti9:eG prog 9=some {size:=1,agg:=false,bytes:=16,zero:=[.string ⟨#[]⟩],eqs:=[],kind:=.str}:=by kernel_rfl
theorem ahX:eG prog 22=some {size:=1,agg:=false,bytes:=24,zero:=[.slice none 0 0],eqs:=[],kind:=.slice 33 4}:=by kernel_rfl
theorem agK:eG prog 24=some {size:=1,agg:=false,bytes:=24,zero:=[.slice none 0 0],eqs:=[],kind:=.slice 40 11}:=by kernel_rfl
theorem agI:eG prog 25=some {size:=1,agg:=false,bytes:=24,zero:=[.slice none 0 0],eqs:=[],kind:=.slice 100 4}:=by kernel_rfl
theorem ag0:eG prog 26=some {size:=1,agg:=false,bytes:=24,zero:=[.slice none 0 0],eqs:=[],kind:=.slice 67 3}:=by kernel_rfl
theorem agW:eG prog 28=some {size:=3,agg:=true,bytes:=72,zero:=[.slice none 0 0,.slice none 0 0,.slice none 0 0],eqs:=[],kind:=.struct [(0,24),(1,25),(2,26)]}:=by kernel_rfl
theorem ah3:eG prog 29=some {size:=1,agg:=false,bytes:=24,zero:=[.slice none 0 0],eqs:=[],kind:=.slice 45 9}:=by kernel_rfl
theorem agJ:eG prog 33=some {size:=4,agg:=true,bytes:=16,zero:=[.int .u8 0,.int .u8 0,.int .u8 0,.int .i64 0],eqs:=[.int,.int,.int,.int],kind:=.struct [(0,5),(1,5),(2,5),(3,3)]}:=by kernel_rfl
theorem ahn:eG prog 34=some {size:=1,agg:=false,bytes:=24,zero:=[.slice none 0 0],eqs:=[],kind:=.slice 72 4}:=by kernel_rfl
theorem ag7:eG prog 35=some {size:=1,agg:=false,bytes:=24,zero:=[.slice none 0 0],eqs:=[],kind:=.slice 3 1}:=by kernel_rfl
theorem ah0:eG prog 36=some {size:=1,agg:=false,bytes:=24,zero:=[.slice none 0 0],eqs:=[],kind:=.slice 9 1}:=by kernel_rfl
theorem ahw:eG prog 38=some {size:=5,agg:=true,bytes:=80,zero:=[.int .i64 0,.int .i64 0,.string ⟨#[]⟩,.slice none 0 0,.slice none 0 0],eqs:=[],kind:=.struct [(0,3),(1,3),(2,9),(3,35),(4,36)]}:=by kernel_rfl
theorem ah2:eG prog 40=some {size:=11,agg:=true,bytes:=152,zero:=[.int .i64 0,.int .i64 0,.string ⟨#[]⟩,.int .i64 0,.slice none 0 0,.int .i64 0,.int .i64 0,.int .i64 0,.string ⟨#[]⟩,.slice none 0 0,.slice none 0 0],eqs:=[],kind:=.struct [(0,3),(1,3),(2,9),(3,3),(4,34),(5,3),(6,38)]}:=by kernel_rfl
theorem ahK:eG prog 43=some {size:=1,agg:=false,bytes:=24,zero:=[.slice none 0 0],eqs:=[],kind:=.slice 58 3}:=by kernel_rfl
theorem ahg:eG prog 45=some {size:=9,agg:=true,bytes:=136,zero:=[.int .i64 0,.string ⟨#[]⟩,.int .i64 0,.int .i64 0,.int .i64 0,.string ⟨#[]⟩,.slice none 0 0,.slice none 0 0,.slice none 0 0],eqs:=[],kind:=.struct [(0,3),(1,9),(2,3),(3,38),(8,43)]}:=by kernel_rfl
theorem ahx:eG prog 46=some {size:=1,agg:=false,bytes:=24,zero:=[.slice none 0 0],eqs:=[],kind:=.slice 52 2}:=by kernel_rfl
theorem agN:eG prog 49=some {size:=1,agg:=false,bytes:=24,zero:=[.slice none 0 0],eqs:=[],kind:=.slice 55 3}:=by kernel_rfl
theorem ag3:eG prog 52=some {size:=2,agg:=true,bytes:=32,zero:=[.string ⟨#[]⟩,.string ⟨#[]⟩],eqs:=[.str,.str],kind:=.struct [(0,9),(1,9)]}:=by kernel_rfl
theorem agX:eG prog 53=some {size:=1,agg:=false,bytes:=24,zero:=[.slice none 0 0],eqs:=[],kind:=.slice 38 5}:=by kernel_rfl
theorem ahh:eG prog 55=some {size:=3,agg:=true,bytes:=40,zero:=[.int .i64 0,.slice none 0 0,.bool false],eqs:=[],kind:=.struct [(0,3),(1,53),(2,4)]}:=by kernel_rfl
theorem ag2:eG prog 58=some {size:=3,agg:=true,bytes:=56,zero:=[.string ⟨#[]⟩,.string ⟨#[]⟩,.slice none 0 0],eqs:=[],kind:=.struct [(0,52),(2,53)]}:=by kernel_rfl
theorem agM:eG prog 63=some {size:=1,agg:=false,bytes:=8,zero:=[.int .i64 0],eqs:=[],kind:=.int .i64}:=by kernel_rfl
theorem agP:eG prog 67=some {size:=3,agg:=true,bytes:=56,zero:=[.string ⟨#[]⟩,.string ⟨#[]⟩,.slice none 0 0],eqs:=[],kind:=.struct [(0,52),(2,49)]}:=by kernel_rfl
theorem ahU:eG prog 72=some {size:=4,agg:=true,bytes:=72,zero:=[.string ⟨#[]⟩,.string ⟨#[]⟩,.string ⟨#[]⟩,.slice none 0 0],eqs:=[],kind:=.struct [(0,52),(2,9),(3,53)]}:=by kernel_rfl
theorem afW:eG prog 100=some {size:=4,agg:=true,bytes:=64,zero:=[.string ⟨#[]⟩,.string ⟨#[]⟩,.int .i64 0,.slice none 0 0],eqs:=[],kind:=.struct [(0,52),(2,3),(3,35)]}:=by kernel_rfl
theorem af2:eG prog 103=some {size:=1,agg:=false,bytes:=24,zero:=[.slice none 0 0],eqs:=[],kind:=.slice 156 3}:=by kernel_rfl
theorem agf:eG prog 136=some {size:=1,agg:=false,bytes:=8,zero:=[.int .u64 0],eqs:=[],kind:=.int .u64}:=by kernel_rfl
theorem afP:eG prog 156=some {size:=3,agg:=true,bytes:=40,zero:=[.string ⟨#[]⟩,.string ⟨#[]⟩,.int .i64 0],eqs:=[.str,.str,.int],kind:=.struct [(0,52),(2,3)]}:=by kernel_rfl
theorem afT:eG prog 188=some {size:=1,agg:=false,bytes:=8,zero:=[.int .u64 0],eqs:=[],kind:=.int .u64}:=by kernel_rfl
theorem ahf(l:List Int):Abs.frzRows (l.map (aA .i64))=l.map (aA .i64):=aO.frzRows (s7 .i64) l
theorem ahl(l:List Int):(l.map (aA .i64)).all (fun r=>r.all C.cellOk)=true:=aO.all (s7 .i64) l
theorem ahz(l:List Int):(l.map (aA .i64)).all (fun r=>r.all Abs.plainCell)=true:=aO.allPlain (s7 .i64) l
theorem ahH(l:List Int):bQ (bO (aC .i64)) (l.map (aA .i64))=some l:=aU (Ds .i64) l
theorem agV(l:List ah):Abs.frzRows (l.map ah.row)=l.map ah.row:=aO.frzRows ah.row_ok l
theorem ahj(l:List ah):(l.map ah.row).all (fun r=>r.all C.cellOk)=true:=aO.all ah.row_ok l
theorem ahd(l:List ah):(l.map ah.row).all (fun r=>r.all Abs.plainCell)=true:=aO.allPlain ah.row_ok l
theorem ahN(l:List ah):bQ ah.dec (l.map ah.row)=some l:=aU ah.dec_row l
theorem ag1(l:List aB):Abs.frzRows (l.map aB.row)=l.map aB.row:=aO.frzRows aB.row_ok l
theorem ahv(l:List aB):(l.map aB.row).all (fun r=>r.all C.cellOk)=true:=aO.all aB.row_ok l
theorem ahu(l:List aB):(l.map aB.row).all (fun r=>r.all Abs.plainCell)=true:=aO.allPlain aB.row_ok l
theorem aht(l:List aB):bQ aB.dec (l.map aB.row)=some l:=aU aB.dec_row l
theorem ahR(l:List aj):Abs.frzRows (l.map aj.row)=l.map aj.row:=aO.frzRows aj.row_ok l
theorem ahF(l:List aj):(l.map aj.row).all (fun r=>r.all C.cellOk)=true:=aO.all aj.row_ok l
theorem agG(l:List aj):(l.map aj.row).all (fun r=>r.all Abs.plainCell)=true:=aO.allPlain aj.row_ok l
theorem ahr(l:List aj):bQ aj.dec (l.map aj.row)=some l:=aU aj.dec_row l
theorem ahM(l:List aa):Abs.frzRows (l.map aa.row)=l.map aa.row:=aO.frzRows aa.row_ok l
theorem ag9(l:List aa):(l.map aa.row).all (fun r=>r.all C.cellOk)=true:=aO.all aa.row_ok l
theorem ahC(l:List aa):(l.map aa.row).all (fun r=>r.all Abs.plainCell)=true:=aO.allPlain aa.row_ok l
theorem ahb(l:List aa):bQ aa.dec (l.map aa.row)=some l:=aU aa.dec_row l
theorem agQ(l:List ai):Abs.frzRows (l.map ai.row)=l.map ai.row:=aO.frzRows ai.row_ok l
theorem ahQ(l:List ai):(l.map ai.row).all (fun r=>r.all C.cellOk)=true:=aO.all ai.row_ok l
theorem ahy(l:List ai):(l.map ai.row).all (fun r=>r.all Abs.plainCell)=true:=aO.allPlain ai.row_ok l
theorem ahS(l:List ai):bQ ai.dec (l.map ai.row)=some l:=aU ai.dec_row l
theorem ah1(l:List ay):Abs.frzRows (l.map ay.row)=l.map ay.row:=aO.frzRows ay.row_ok l
theorem agH(l:List ay):(l.map ay.row).all (fun r=>r.all C.cellOk)=true:=aO.all ay.row_ok l
theorem ahp(l:List ay):(l.map ay.row).all (fun r=>r.all Abs.plainCell)=true:=aO.allPlain ay.row_ok l
theorem ahG(l:List ay):bQ ay.dec (l.map ay.row)=some l:=aU ay.dec_row l
theorem ahB(l:List Ref):Abs.frzRows (l.map Ref.row)=l.map Ref.row:=aO.frzRows Ref.row_ok l
theorem ahV(l:List Ref):(l.map Ref.row).all (fun r=>r.all C.cellOk)=true:=aO.all Ref.row_ok l
theorem ahs(l:List Ref):(l.map Ref.row).all (fun r=>r.all Abs.plainCell)=true:=aO.allPlain Ref.row_ok l
theorem ahk(l:List Ref):bQ Ref.dec (l.map Ref.row)=some l:=aU Ref.dec_row l
theorem ahJ(l:List Txn):Abs.frzRows (l.map Txn.row)=l.map Txn.row:=aO.frzRows Txn.row_ok l
theorem ahq(l:List Txn):(l.map Txn.row).all (fun r=>r.all C.cellOk)=true:=aO.all Txn.row_ok l
theorem ahD(l:List Txn):(l.map Txn.row).all (fun r=>r.all Abs.plainCell)=true:=aO.allPlain Txn.row_ok l
theorem ahE(l:List Txn):bQ Txn.dec (l.map Txn.row)=some l:=aU Txn.dec_row l
theorem ag6(l:List Value):Abs.frzRows (l.map Value.row)=l.map Value.row:=aO.frzRows Value.row_ok l
theorem ahO(l:List Value):(l.map Value.row).all (fun r=>r.all C.cellOk)=true:=aO.all Value.row_ok l
theorem agR(l:List Value):(l.map Value.row).all (fun r=>r.all Abs.plainCell)=true:=aO.allPlain Value.row_ok l
theorem agZ(l:List Value):bQ Value.dec (l.map Value.row)=some l:=aU Value.dec_row l
theorem age(l:List aP):Abs.frzRows (l.map aP.row)=l.map aP.row:=aO.frzRows aP.row_ok l
theorem agr(l:List aP):(l.map aP.row).all (fun r=>r.all C.cellOk)=true:=aO.all aP.row_ok l
theorem af3(l:List aP):(l.map aP.row).all (fun r=>r.all Abs.plainCell)=true:=aO.allPlain aP.row_ok l
theorem agt(l:List aP):bQ aP.dec (l.map aP.row)=some l:=aU aP.dec_row l
theorem agm(l:List al):Abs.frzRows (l.map al.row)=l.map al.row:=aO.frzRows al.row_ok l
theorem agp(l:List al):(l.map al.row).all (fun r=>r.all C.cellOk)=true:=aO.all al.row_ok l
theorem afZ(l:List al):(l.map al.row).all (fun r=>r.all Abs.plainCell)=true:=aO.allPlain al.row_ok l
theorem agq(l:List al):bQ al.dec (l.map al.row)=some l:=aU al.dec_row l
theorem af8(l:List ByteArray):Abs.frzRows (l.map dA)=l.map dA:=aO.frzRows Tv l
theorem afO(l:List ByteArray):(l.map dA).all (fun r=>r.all C.cellOk)=true:=aO.all Tv l
theorem agl(l:List ByteArray):(l.map dA).all (fun r=>r.all Abs.plainCell)=true:=aO.allPlain Tv l
theorem afV(l:List ByteArray):bQ (bO bG) (l.map dA)=some l:=aU Gv l
theorem agS(l:List aa):bQ aa.decE (l.map aa.rowD)=some l:=aU aa.decE_rowD l
theorem ahZ(l:List aa):bQ aa.dec (l.map aa.rowD)=some l:=aU aa.dec_rowD l
attribute [go_sem] ti3 ti4 ti5 ti9 ahX agK agI ag0 agW ah3 agJ ahn
attribute [go_sem] ag7 ah0 ahw ah2 ahK ahg ahx agN ag3 agX ahh ag2
attribute [go_sem] agM agP ahU afW af2 agf afP afT al.row al.eta al.dec al.decA
attribute [go_sem] al.dec_row Ref.row Ref.eta Ref.dec Ref.decA Ref.dec_row Value.row Value.eta Value.dec Value.decA Value.dec_row ah.row
attribute [go_sem] ah.eta ah.dec ah.decA ah.dec_row Txn.row Txn.eta Txn.dec Txn.decA Txn.dec_row ai.rowD ai.row ai.eta
attribute [go_sem] ai.dec ai.decA ai.dec_row aj.row aj.eta aj.dec aj.decA aj.dec_row aa.rowD aa.dec_rowD aa.decE aa.decE_rowD
attribute [go_sem] aa.row aa.eta aa.dec aa.decA aa.dec_row ae.row ae.eta ae.dec ae.decA ae.dec_row aP.row aP.eta
attribute [go_sem] aP.dec aP.decA aP.dec_row aB.row aB.eta aB.dec aB.decA aB.dec_row ay.row ay.eta ay.dec ay.decA
attribute [go_sem] ay.dec_row aeA aea aeH aej ahf ahl ahz ahH agV ahj ahd
attribute [go_sem] ahN ag1 ahv ahu aht ahR ahF agG ahr ahM ag9 ahC
attribute [go_sem] ahb agQ ahQ ahy ahS ah1 agH ahp ahG ahB ahV ahs
attribute [go_sem] ahk ahJ ahq ahD ahE ag6 ahO agR agZ age agr af3
attribute [go_sem] agt agm agp afZ agq af8 afO agl afV agS ahZ
end Go.Proofs.YtmacaidmhchpgaaGreat
