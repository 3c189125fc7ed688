/- Walks: each function computes its model. No condition. -/
import Derived.Test.YteldkhmcgloafaaB
/- A library function on rows told cell by cell. -/
set_option maxHeartbeats 40000000
set_option synthInstance.maxHeartbeats 2000000
set_option synthInstance.maxSize 4000
set_option linter.unusedSimpArgs false
set_option linter.unusedVariables false
set_option maxRecDepth 100000
namespace Go.Proofs.Yteldkhmcgloafaa.V
open Go Go.Proofs Go.Abs
structure ValueV where
 Kind:Int
 N:Int
 S:ByteArray
 I:OV
 L:OV
theorem ValueV.eta (x:ValueV):ValueV.mk x.Kind x.N x.S x.I x.L=x:=rfl
def ValueV.row (x:ValueV):List C:=[.val (.int .i64 x.Kind),.val (.int .i64 x.N),.val (.string x.S),.val x.I.1,.val x.L.1]
def ValueV.dec:List C->Option ValueV
 | [c0,c1,c2,c3,c4]=>((decI .i64) c0).bind fun a0=>((decI .i64) c1).bind fun a1=>(decS c2).bind fun a2=>(decV c3).bind fun a3=>(decV c4).bind fun a4=>some (ValueV.mk a0 a1 a2 a3 a4)
 | _=>none
theorem ValueV.dec_row (x:ValueV):ValueV.dec (ValueV.row x)=some x:=by
 simp only [ValueV.row,ValueV.dec,gu,gY,gX,jf,oN,Option.bind_some]
theorem ValueV.dec_le:∀ (r:List C) (x:ValueV),ValueV.dec r=some x->LeL r (ValueV.row x):=by
 intro r x h;unfold ValueV.dec at h;split at h
 ·simp only [Option.bind_eq_some_iff,Option.some.injEq] at h;obtain ⟨a0,h0,a1,h1,a2,h2,a3,h3,a4,h4,rfl⟩:=h;exact LeL.cons (aj h0) (LeL.cons (aj h1) (LeL.cons (bw h2) (LeL.cons (kj h3) (LeL.cons (kj h4) (LeL.nil)))))
 ·cases h
theorem ValueV.row_ok:RowOk ValueV.row:=⟨fun _=>rfl,fun x=>by simp only [ValueV.row,List.all_cons,List.all_nil,OV.cell,Bool.and_true,Bool.true_and]<;>rfl,fun x=>by simp only [ValueV.row,List.all_cons,List.all_nil,OV.plain,Bool.and_true,Bool.true_and]<;>rfl⟩
instance:RowI ValueV.row:=⟨ValueV.row_ok⟩
instance (cs:List C) (x:ValueV) [h:LeIL cs [.val (.int .i64 x.Kind),.val (.int .i64 x.N),.val (.string x.S),.val x.I.1,.val x.L.1]]:LeIL cs (ValueV.row x):=⟨h.h⟩
theorem ValueV.row_pure:∀ x,∀ c∈ValueV.row x,PureC c:=fun x=>aQ (PureC.val _) (aQ (PureC.val _) (aQ (PureC.val _) (aQ (PureC.val _) (aQ (PureC.val _) (kO)))))
instance:PureRI ValueV.row:=⟨ValueV.row_pure⟩
def ValueV.decA:C->Option ValueV
 | .agg cs=>ValueV.dec cs
 | _=>none
theorem ValueV.decA_le {c:C} {x:ValueV} (h:ValueV.decA c=some x):Le c (.agg (ValueV.row x)):=by
 unfold ValueV.decA at h;split at h
 ·exact Le.agg (ValueV.dec_le _ _ h)
 ·cases h
structure ReplyV where
 Client:ByteArray
 Seq:Int
 Path:OV
 Err:Int
 Value:ValueV
theorem ReplyV.eta (x:ReplyV):ReplyV.mk x.Client x.Seq x.Path x.Err x.Value=x:=rfl
def ReplyV.row (x:ReplyV):List C:=[.val (.string x.Client),.val (.int .i64 x.Seq),.val x.Path.1,.val (.int .i64 x.Err),.val (.int .i64 x.Value.Kind),.val (.int .i64 x.Value.N),.val (.string x.Value.S),.val x.Value.I.1,.val x.Value.L.1]
def ReplyV.dec:List C->Option ReplyV
 | [c0,c1,c2,c3,c4,c5,c6,c7,c8]=>(decS c0).bind fun a0=>((decI .i64) c1).bind fun a1=>(decV c2).bind fun a2=>((decI .i64) c3).bind fun a3=>((decI .i64) c4).bind fun a4=>((decI .i64) c5).bind fun a5=>(decS c6).bind fun a6=>(decV c7).bind fun a7=>(decV c8).bind fun a8=>some (ReplyV.mk a0 a1 a2 a3 (ValueV.mk a4 a5 a6 a7 a8))
 | _=>none
theorem ReplyV.dec_row (x:ReplyV):ReplyV.dec (ReplyV.row x)=some x:=by
 simp only [ReplyV.row,ReplyV.dec,gu,gY,gX,jf,oN,Option.bind_some]
theorem ReplyV.dec_le:∀ (r:List C) (x:ReplyV),ReplyV.dec r=some x->LeL r (ReplyV.row x):=by
 intro r x h;unfold ReplyV.dec at h;split at h
 ·simp only [Option.bind_eq_some_iff,Option.some.injEq] at h;obtain ⟨a0,h0,a1,h1,a2,h2,a3,h3,a4,h4,a5,h5,a6,h6,a7,h7,a8,h8,rfl⟩:=h;exact LeL.cons (bw h0) (LeL.cons (aj h1) (LeL.cons (kj h2) (LeL.cons (aj h3) (LeL.cons (aj h4) (LeL.cons (aj h5) (LeL.cons (bw h6) (LeL.cons (kj h7) (LeL.cons (kj h8) (LeL.nil)))))))))
 ·cases h
theorem ReplyV.row_ok:RowOk ReplyV.row:=⟨fun _=>rfl,fun x=>by simp only [ReplyV.row,List.all_cons,List.all_nil,OV.cell,Bool.and_true,Bool.true_and]<;>rfl,fun x=>by simp only [ReplyV.row,List.all_cons,List.all_nil,OV.plain,Bool.and_true,Bool.true_and]<;>rfl⟩
instance:RowI ReplyV.row:=⟨ReplyV.row_ok⟩
instance (cs:List C) (x:ReplyV) [h:LeIL cs [.val (.string x.Client),.val (.int .i64 x.Seq),.val x.Path.1,.val (.int .i64 x.Err),.val (.int .i64 x.Value.Kind),.val (.int .i64 x.Value.N),.val (.string x.Value.S),.val x.Value.I.1,.val x.Value.L.1]]:LeIL cs (ReplyV.row x):=⟨h.h⟩
theorem ReplyV.row_pure:∀ x,∀ c∈ReplyV.row x,PureC c:=fun x=>aQ (PureC.val _) (aQ (PureC.val _) (aQ (PureC.val _) (aQ (PureC.val _) (aQ (PureC.val _) (aQ (PureC.val _) (aQ (PureC.val _) (aQ (PureC.val _) (aQ (PureC.val _) (kO)))))))))
instance:PureRI ReplyV.row:=⟨ReplyV.row_pure⟩
def ReplyV.decA:C->Option ReplyV
 | .agg cs=>ReplyV.dec cs
 | _=>none
theorem ReplyV.decA_le {c:C} {x:ReplyV} (h:ReplyV.decA c=some x):Le c (.agg (ReplyV.row x)):=by
 unfold ReplyV.decA at h;split at h
 ·exact Le.agg (ReplyV.dec_le _ _ h)
 ·cases h
structure af where
 Seq:Int
 Reply:ReplyV
theorem af.eta (x:af):af.mk x.Seq x.Reply=x:=rfl
def af.row (x:af):List C:=[.val (.int .i64 x.Seq),.val (.string x.Reply.Client),.val (.int .i64 x.Reply.Seq),.val x.Reply.Path.1,.val (.int .i64 x.Reply.Err),.val (.int .i64 x.Reply.Value.Kind),.val (.int .i64 x.Reply.Value.N),.val (.string x.Reply.Value.S),.val x.Reply.Value.I.1,.val x.Reply.Value.L.1]
def af.dec:List C->Option af
 | [c0,c1,c2,c3,c4,c5,c6,c7,c8,c9]=>((decI .i64) c0).bind fun a0=>(decS c1).bind fun a1=>((decI .i64) c2).bind fun a2=>(decV c3).bind fun a3=>((decI .i64) c4).bind fun a4=>((decI .i64) c5).bind fun a5=>((decI .i64) c6).bind fun a6=>(decS c7).bind fun a7=>(decV c8).bind fun a8=>(decV c9).bind fun a9=>some (af.mk a0 (ReplyV.mk a1 a2 a3 a4 (ValueV.mk a5 a6 a7 a8 a9)))
 | _=>none
theorem af.dec_row (x:af):af.dec (af.row x)=some x:=by
 simp only [af.row,af.dec,gu,gY,gX,jf,oN,Option.bind_some]
theorem af.dec_le:∀ (r:List C) (x:af),af.dec r=some x->LeL r (af.row x):=by
 intro r x h;unfold af.dec at h;split at h
 ·simp only [Option.bind_eq_some_iff,Option.some.injEq] at h;obtain ⟨a0,h0,a1,h1,a2,h2,a3,h3,a4,h4,a5,h5,a6,h6,a7,h7,a8,h8,a9,h9,rfl⟩:=h;exact LeL.cons (aj h0) (LeL.cons (bw h1) (LeL.cons (aj h2) (LeL.cons (kj h3) (LeL.cons (aj h4) (LeL.cons (aj h5) (LeL.cons (aj h6) (LeL.cons (bw h7) (LeL.cons (kj h8) (LeL.cons (kj h9) (LeL.nil))))))))))
 ·cases h
theorem af.row_ok:RowOk af.row:=⟨fun _=>rfl,fun x=>by simp only [af.row,List.all_cons,List.all_nil,OV.cell,Bool.and_true,Bool.true_and]<;>rfl,fun x=>by simp only [af.row,List.all_cons,List.all_nil,OV.plain,Bool.and_true,Bool.true_and]<;>rfl⟩
instance:RowI af.row:=⟨af.row_ok⟩
instance (cs:List C) (x:af) [h:LeIL cs [.val (.int .i64 x.Seq),.val (.string x.Reply.Client),.val (.int .i64 x.Reply.Seq),.val x.Reply.Path.1,.val (.int .i64 x.Reply.Err),.val (.int .i64 x.Reply.Value.Kind),.val (.int .i64 x.Reply.Value.N),.val (.string x.Reply.Value.S),.val x.Reply.Value.I.1,.val x.Reply.Value.L.1]]:LeIL cs (af.row x):=⟨h.h⟩
theorem af.row_pure:∀ x,∀ c∈af.row x,PureC c:=fun x=>aQ (PureC.val _) (aQ (PureC.val _) (aQ (PureC.val _) (aQ (PureC.val _) (aQ (PureC.val _) (aQ (PureC.val _) (aQ (PureC.val _) (aQ (PureC.val _) (aQ (PureC.val _) (aQ (PureC.val _) (kO))))))))))
instance:PureRI af.row:=⟨af.row_pure⟩
def af.decA:C->Option af
 | .agg cs=>af.dec cs
 | _=>none
theorem af.decA_le {c:C} {x:af} (h:af.decA c=some x):Le c (.agg (af.row x)):=by
 unfold af.decA at h;split at h
 ·exact Le.agg (af.dec_le _ _ h)
 ·cases h
structure aP where
 Name:ByteArray
 Low:Int
 Open:OV
 Done:(List af)
theorem aP.eta (x:aP):aP.mk x.Name x.Low x.Open x.Done=x:=rfl
def aP.row (x:aP):List C:=[.val (.string x.Name),.val (.int .i64 x.Low),.val x.Open.1,.sl false none 10 none (x.Done.map af.row)]
def aP.dec:List C->Option aP
 | [c0,c1,c2,c3]=>(decS c0).bind fun a0=>((decI .i64) c1).bind fun a1=>(decV c2).bind fun a2=>((decL 10 af.dec) c3).bind fun a3=>some (aP.mk a0 a1 a2 a3)
 | _=>none
theorem aP.dec_row (x:aP):aP.dec (aP.row x)=some x:=by
 simp only [aP.row,aP.dec,gu,gY,gX,jf,oN,Option.bind_some,be af.dec_row]
theorem aP.dec_le:∀ (r:List C) (x:aP),aP.dec r=some x->LeL r (aP.row x):=by
 intro r x h;unfold aP.dec at h;split at h
 ·simp only [Option.bind_eq_some_iff,Option.some.injEq] at h;obtain ⟨a0,h0,a1,h1,a2,h2,a3,h3,rfl⟩:=h;exact LeL.cons (bw h0) (LeL.cons (aj h1) (LeL.cons (kj h2) (LeL.cons (aF af.dec_le h3) (LeL.nil))))
 ·cases h
theorem aP.row_ok:RowOk aP.row:=⟨fun _=>rfl,fun x=>by simp only [aP.row,List.all_cons,List.all_nil,OV.cell,Bool.and_true,Bool.true_and]<;>rfl,fun x=>by simp only [aP.row,List.all_cons,List.all_nil,OV.plain,Bool.and_true,Bool.true_and]<;>rfl⟩
instance:RowI aP.row:=⟨aP.row_ok⟩
instance (cs:List C) (x:aP) [h:LeIL cs [.val (.string x.Name),.val (.int .i64 x.Low),.val x.Open.1,.sl false none 10 none (x.Done.map af.row)]]:LeIL cs (aP.row x):=⟨h.h⟩
def aP.decA:C->Option aP
 | .agg cs=>aP.dec cs
 | _=>none
theorem aP.decA_le {c:C} {x:aP} (h:aP.decA c=some x):Le c (.agg (aP.row x)):=by
 unfold aP.decA at h;split at h
 ·exact Le.agg (aP.dec_le _ _ h)
 ·cases h
def eb (N:Nat) (a0:af) (c0_0_1:Int):Option (Bool):=
 some (decide (a0.Seq<=c0_0_1))
def aK (N:Nat) (k1_0_0_1:Int):List af->Nat->Unit->Option (Int)
 | [],v2,()=>
  (some (-1))
 | x5::xs,v2,()=>
  ((eb N x5 k1_0_0_1).bind fun r8=>
  if r8=true then
  (some ((v2:Nat):Int))
  else
  ((((aK N k1_0_0_1 xs (v2+1)) ()))))
def ba (N:Nat) (a0:(List af)) (k1_0_0_1:Int):Option (Int):=
 (aK N k1_0_0_1 a0 0 ())
def av (N:Nat) (k1_0_0_1:Int) (kx3:(List af)->Int->Option ((List af))):Nat->List af × Int × Int->Option ((List af))
 | 0,_=>none
 | n+1,(l4,v5,v6)=>
  if v6 < ((l4.length:Nat):Int) then
  ((gx l4 v6 fun x10=>
  (eb N x10 k1_0_0_1).bind fun r11=>
  if r11=true then
  ((((av N k1_0_0_1 kx3 n) (l4,v5,IntKind.i64.wrap (v6+1)))))
  else
  (gx l4 v5 fun x12=>
  (((av N k1_0_0_1 kx3 n) ((l4.set ((v5).toNat) x10),(IntKind.i64.wrap (v5+1)),IntKind.i64.wrap (v6+1)))))))
  else
  ((kx3 l4 v5))
def aS (l15:List af) (v16:Int):Option ((List af)):=
 slx l15 v16 ((l15.length:Nat):Int) fun l17=>
 slx (clrL (af.mk 0 (ReplyV.mk (⟨#[]⟩) 0 OV.nil 0 (ValueV.mk 0 0 (⟨#[]⟩) OV.nil OV.nil))) (v16).toNat l15) 0 v16 fun l18=>
 some ((clrL (af.mk 0 (ReplyV.mk (⟨#[]⟩) 0 OV.nil 0 (ValueV.mk 0 0 (⟨#[]⟩) OV.nil OV.nil))) (v16).toNat l15).take ((v16).toNat))
def aW (N:Nat) (a0:(List af)) (k1_0_0_1:Int):Option ((List af)):=
 (ba N a0 k1_0_0_1).bind fun r1=>
 if r1=(-1) then
 (some a0)
 else
 (((av N k1_0_0_1 aS N (a0,r1,IntKind.i64.wrap (r1+1)))))
theorem mixV:Try.prog.follows .mixedOrders=true:=by kernel_rfl
theorem ti3:tiOf Try.prog 3=some { size:=1,agg:=false,bytes:=8,zero:=[.int .i64 0],eqs:=[],kind:=.int .i64 }:=by kernel_rfl
theorem ti4:tiOf Try.prog 4=some { size:=1,agg:=false,bytes:=1,zero:=[.bool false],eqs:=[],kind:=.bool }:=by kernel_rfl
theorem ti9:tiOf Try.prog 9=some { size:=1,agg:=false,bytes:=16,zero:=[.string ⟨#[]⟩],eqs:=[],kind:=.str }:=by kernel_rfl
theorem ti23:tiOf Try.prog 23=some { size:=1,agg:=false,bytes:=24,zero:=[.slice none 0 0],eqs:=[],kind:=.slice 3 1 }:=by kernel_rfl
theorem ti24:tiOf Try.prog 24=some { size:=1,agg:=false,bytes:=8,zero:=[.int .i64 0],eqs:=[],kind:=.int .i64 }:=by kernel_rfl
theorem ti25:tiOf Try.prog 25=some { size:=1,agg:=false,bytes:=24,zero:=[.slice none 0 0],eqs:=[],kind:=.slice 9 1 }:=by kernel_rfl
theorem ti27:tiOf Try.prog 27=some { size:=5,agg:=true,bytes:=80,zero:=[.int .i64 0,.int .i64 0,.string ⟨#[]⟩,.slice none 0 0,.slice none 0 0],eqs:=[],kind:=.struct [(0,3),(1,3),(2,9),(3,23),(4,25)] }:=by kernel_rfl
theorem ti29:tiOf Try.prog 29=some { size:=9,agg:=true,bytes:=136,zero:=[.string ⟨#[]⟩,.int .i64 0,.slice none 0 0,.int .i64 0,.int .i64 0,.int .i64 0,.string ⟨#[]⟩,.slice none 0 0,.slice none 0 0],eqs:=[],kind:=.struct [(0,9),(1,3),(2,23),(3,24),(4,27)] }:=by kernel_rfl
theorem ti54:tiOf Try.prog 54=some { size:=1,agg:=false,bytes:=24,zero:=[.slice none 0 0],eqs:=[],kind:=.slice 58 10 }:=by kernel_rfl
theorem ti56:tiOf Try.prog 56=some { size:=4,agg:=true,bytes:=72,zero:=[.string ⟨#[]⟩,.int .i64 0,.slice none 0 0,.slice none 0 0],eqs:=[],kind:=.struct [(0,9),(1,3),(2,23),(3,54)] }:=by kernel_rfl
theorem ti58:tiOf Try.prog 58=some { size:=10,agg:=true,bytes:=144,zero:=[.int .i64 0,.string ⟨#[]⟩,.int .i64 0,.slice none 0 0,.int .i64 0,.int .i64 0,.int .i64 0,.string ⟨#[]⟩,.slice none 0 0,.slice none 0 0],eqs:=[],kind:=.struct [(0,3),(1,29)] }:=by kernel_rfl
theorem ti71:tiOf Try.prog 71=some { size:=1,agg:=false,bytes:=8,zero:=[.pointer none],eqs:=[],kind:=.other }:=by kernel_rfl
theorem okf0 (l:List Int):Abs.frzRows (l.map (rowI .i64))=l.map (rowI .i64):=RowOk.frzRows (dV .i64) l
theorem oka0 (l:List Int):(l.map (rowI .i64)).all (fun r=>r.all C.cellOk)=true:=RowOk.all (dV .i64) l
theorem okp0 (l:List Int):(l.map (rowI .i64)).all (fun r=>r.all Abs.plainCell)=true:=RowOk.allPlain (dV .i64) l
theorem okd0 (l:List Int):dD (dec1 (decI .i64)) (l.map (rowI .i64))=some l:=be (js .i64) l
theorem okf1 (l:List af):Abs.frzRows (l.map af.row)=l.map af.row:=RowOk.frzRows af.row_ok l
theorem oka1 (l:List af):(l.map af.row).all (fun r=>r.all C.cellOk)=true:=RowOk.all af.row_ok l
theorem okp1 (l:List af):(l.map af.row).all (fun r=>r.all Abs.plainCell)=true:=RowOk.allPlain af.row_ok l
theorem okd1 (l:List af):dD af.dec (l.map af.row)=some l:=be af.dec_row l
theorem okf2 (l:List ByteArray):Abs.frzRows (l.map rowS)=l.map rowS:=RowOk.frzRows gQ l
theorem oka2 (l:List ByteArray):(l.map rowS).all (fun r=>r.all C.cellOk)=true:=RowOk.all gQ l
theorem okp2 (l:List ByteArray):(l.map rowS).all (fun r=>r.all Abs.plainCell)=true:=RowOk.allPlain gQ l
theorem okd2 (l:List ByteArray):dD (dec1 decS) (l.map rowS)=some l:=be mG l
attribute [go_sem] ti3 ti4 ti9 ti23 ti24 ti25 ti27 ti29 ti54 ti56 ti58 ti71
attribute [go_sem] ValueV.row ValueV.eta ValueV.dec ValueV.decA ValueV.dec_row ReplyV.row ReplyV.eta ReplyV.dec ReplyV.decA ReplyV.dec_row af.row af.eta
attribute [go_sem] af.dec af.decA af.dec_row aP.row aP.eta aP.dec aP.decA aP.dec_row yT yU yZ yW
attribute [go_sem] okf0 oka0 okp0 okd0 okf1 oka1 okp1 okd1 okf2 oka2 okp2 okd2
theorem qb (N:Nat) (a0:af) (c0_0_1:Int) (r:Bool) (h:eb N a0 c0_0_1=some r):Con Try.prog 43 [] true [.agg (af.row a0),.iref 1 [[.iref 4 [[.dead,.val (.int .i64 c0_0_1),.dead,.dead]] 0 0]] 0 0] (.val (.bool r)):=by
 refine aV (G:=(glist [])) Try.func43 rfl (by decide) (by kernel_rfl) gn [] mix (Nat.le_of_ble_eq_true rfl) ?_;simp only [Try.f43];unfold eb at h;refine Ws fun Z hZ=>?_;simp only [go_sem,seval];refine hZ _ (pp (Wk_seq (fv fun Z hZ=>?_)));simp only [go_sem,seval];refine hZ _ (by kernel_rfl) (pp (Wk_ret (pp ?_)));cases h;simp only [go_sem,seval];exact ⟨_,rfl,RokI.h,PureI.h⟩
def eN (N:Nat):FnS:={ own:=[],pure:=true,fn:=fun cs=>match cs with
 | [c0,.iref 1 [[.iref 4 [[_,c1_0_1,_,_]] 0 0]] 0 0]=>(af.decA c0).bind fun qc0=>((decI .i64) c1_0_1).bind fun qc1_0_1=>(eb N qc0 qc1_0_1).map fun r=>.val (.bool r)
 | _=>none }
attribute [go_sem] eN
theorem jS (N:Nat):FSOk Try.prog 43 (eN N):=by
 refine ⟨fun cs r h=>?_,fun h=>by cases h⟩;simp only [eN] at h;split at h
 ·simp only [Option.bind_eq_some_iff,Option.map_eq_some_iff] at h;obtain ⟨q0,h0,q1,h1,r',hr,rfl⟩:=h;exact ((qb N q0 q1 r' hr).args (LeL.cons (af.decA_le h0) (LeL.cons (Le.iref1 (LeL.cons (Le.iref1 (LeL.cons (Le.dead _) (LeL.cons (aj h1) (LeL.cons (Le.dead _) (LeL.cons (Le.dead _) (LeL.nil)))))) (LeL.nil))) (LeL.nil))))
 ·cases h

noncomputable def eJ (N d f:Nat):Option FnS:=glist [(16,43,eN N)] d f
attribute [go_sem] eJ
theorem iQ (N:Nat) (a0:(List af)) (k1_0_0_1:Int) (r:Int) (h:ba N a0 k1_0_0_1=some r):Con Try.prog 68 [] true [.sl false none 10 none (a0.map af.row),.clo 43 [.iref 1 [[.iref 4 [[.dead,.val (.int .i64 k1_0_0_1),.dead,.dead]] 0 0]] 0 0]] (.val (.int .i64 r)):=by
 refine aV (G:=(eJ N)) Try.func68 rfl (by decide) (by kernel_rfl) (gc 16 (jS N) gn) [] mix (Nat.le_of_ble_eq_true rfl) ?_;simp only [Try.f68];unfold ba at h;refine Ws fun Z hZ=>?_;simp only [go_sem,seval];refine hZ _ (pp (Wk_seq (Ws fun Z hZ=>?_)));simp only [go_sem,seval];refine hZ _ (pp (aA (gp fun hreal2=>?_)));have hl1:=hreal2.lenT 0 (by decide) (by simp only [go_sem,seval]; rfl);first|rw [List.length_map] at hl1|rw [eD] at hl1|rw [<-List.map_append,List.length_map] at hl1
 refine gv (fun (v2:Nat) (b:Unit)=>⟨tab 19 (updT (updT (updT (updT deadT 0 (.sl false none 10 none (a0.map af.row))) 1 (.clo 43 [.iref 1 [[.iref 4 [[.dead,.val (.int .i64 k1_0_0_1),.dead,.dead]] 0 0]] 0 0])) 7 (.val (.int .i64 ((a0.length:Nat):Int)))) 8 (.val (.int .i64 ((v2:Nat):Int)))),RZ⟩) () h ?_ ?_
 ·refine wr ?_ ?_<;>repeat' first|rfl|constructor
 rintro v2 ⟨⟩ hi3 h -;rcases (eQ a0 v2 hi3).symm with ⟨hi3',_,hd6⟩|⟨x5,hi3',hx4,hd6⟩
 ·rw [hd6] at h;simp only [aK] at h;refine Ws fun Z hZ=>?_;simp only [go_sem,seval,hi3'];refine hZ _ (pp (Wk_seq ?_));try simp only [Int.ofNat_lt,hi3',if_true,if_false] at h
  refine dB rfl (dL (pp (Ws fun Z hZ=>?_)));simp only [go_sem,seval];refine hZ _ (pp (Wk_ret (pp ?_)));cases h;simp only [go_sem,seval];exact ⟨_,rfl,RokI.h,PureI.h⟩
 rw [hd6] at h;simp only [aK] at h;have hw5:=eI hi3' hl1;refine Ws fun Z hZ=>?_;simp only [go_sem,seval,hi3'];refine hZ _ (pp (Wk_seq ?_));try simp only [Int.ofNat_lt,hi3',if_true,if_false] at h
 refine dG rfl (ak (pp (Wk_seq (aA (Ws fun Z hZ=>?_)))));simp only [go_sem,seval];refine hZ _ (pp (Wk_seq ?_));try rw [gx_nat hx4] at h
 obtain ⟨r1,hr7,h⟩:=Option.bind_eq_some_iff.1 h;refine ae fun Z hZ=>?_;simp only [go_sem,seval,hx4,hi3',hr7];refine hZ _ (pp (aH rfl (fun hc8=>?_) (fun hc8=>?_)))
 ·rw [if_pos hc8] at h;refine Ws fun Z hZ=>?_;simp only [go_sem,seval,hc8];refine hZ _ (pp (Wk_ret (pp ?_)));cases h;simp only [go_sem,seval];exact ⟨_,rfl,RokI.h,PureI.h⟩
 rw [if_neg (ne_true_of_eq_false hc8)] at h;refine ak (pp (ae fun Z hZ=>?_));simp only [go_sem,seval,hw5,hc8];refine hZ _ (pp ?_);first|refine ⟨(),?_,h⟩|refine ⟨hi3',(),?_,h⟩
 refine wr ?_ ?_<;>repeat' first|rfl|constructor
def bB (N:Nat):FnS:={ own:=[],pure:=true,fn:=fun cs=>match cs with
 | [c0,.clo 43 [.iref 1 [[.iref 4 [[_,k1_0_0_1,_,_]] 0 0]] 0 0]]=>((decL 10 af.dec) c0).bind fun qc0=>((decI .i64) k1_0_0_1).bind fun qk1_0_0_1=>(ba N qc0 qk1_0_0_1).map fun r=>.val (.int .i64 r)
 | _=>none }
attribute [go_sem] bB
theorem gR (N:Nat):FSOk Try.prog 68 (bB N):=by
 refine ⟨fun cs r h=>?_,fun h=>by cases h⟩;simp only [bB] at h;split at h
 ·simp only [Option.bind_eq_some_iff,Option.map_eq_some_iff] at h;obtain ⟨q0,h0,q1,h1,r',hr,rfl⟩:=h;exact ((iQ N q0 q1 r' hr).args (LeL.cons (aF af.dec_le h0) (LeL.cons (Le.clo (LeL.cons (Le.iref1 (LeL.cons (Le.iref1 (LeL.cons (Le.dead _) (LeL.cons (aj h1) (LeL.cons (Le.dead _) (LeL.cons (Le.dead _) (LeL.nil)))))) (LeL.nil))) (LeL.nil))) (LeL.nil))))
 ·cases h

noncomputable def eF (N d f:Nat):Option FnS:=glist [(10,68,bB N),(28,43,eN N)] d f
attribute [go_sem] eF
theorem ic (N:Nat) (a0:(List af)) (k1_0_0_1:Int) (r:(List af)) (h:aW N a0 k1_0_0_1=some r):Con Try.prog 42 [true,false] true [.sl true none 10 none (a0.map af.row),.clo 43 [.iref 1 [[.iref 4 [[.dead,.val (.int .i64 k1_0_0_1),.dead,.dead]] 0 0]] 0 0]] (.sl true none 10 none (r.map af.row)):=by
 refine vW (G:=(eF N)) (L:=noL) Try.func42 rfl (by decide) (by kernel_rfl) (gc 10 (gR N) (gc 28 (jS N) gn)) (fun _ _ _ h=>by cases h) [] mix (Nat.le_of_ble_eq_true rfl) ?_;rw [show entryF [true,false] [.sl true none 10 none (a0.map af.row),.clo 43 [.iref 1 [[.iref 4 [[.dead,.val (.int .i64 k1_0_0_1),.dead,.dead]] 0 0]] 0 0]]=(updT (updT deadT 0 (.pal 0 [] 0 a0.length none)) 1 (.clo 43 [.iref 1 [[.iref 4 [[.dead,.val (.int .i64 k1_0_0_1),.dead,.dead]] 0 0]] 0 0])) from by funext t; match t with|0=>simp [entryF,jc,viewD,updT]|1=>rfl|t+2=>rfl];rw [show R0 [true,false] [.sl true none 10 none (a0.map af.row),.clo 43 [.iref 1 [[.iref 4 [[.dead,.val (.int .i64 k1_0_0_1),.dead,.dead]] 0 0]] 0 0]]=upd RZ 0 (.sl true none 10 none (a0.map af.row)) from by funext t; match t with|0=>rfl|1=>rfl|t+2=>rfl];simp only [Try.f42];unfold aW at h;refine Ws fun Z hZ=>?_;simp only [go_sem,seval];refine hZ _ (pp (Wk_seq ?_));obtain ⟨r1,hr1,h⟩:=Option.bind_eq_some_iff.1 h;refine ae fun Z hZ=>?_;simp only [go_sem,seval,hr1];refine hZ _ (pp (Wk_seq (Ws fun Z hZ=>?_)));simp only [go_sem,seval];refine hZ _ (pp (bj rfl (fun hc2=>?_) (fun hc2=>?_)))
 ·have hc2d:=decide_eq_true hc2;rw [if_pos hc2] at h;refine Ws fun Z hZ=>?_;simp only [go_sem,seval,hc2d];refine hZ _ (pp (Wk_ret (pp ?_)));cases h;simp only [go_sem,seval,fG];exact ⟨_,rfl,RokI.h,KeepI.h,PureI.h⟩
 have hc2d:=decide_eq_false hc2;rw [if_neg hc2] at h;refine ak (pp (Wk_seq (Ws fun Z hZ=>?_)));simp only [go_sem,seval,hc2d];refine hZ _ (pp (aA (qa (fun (b:List af × Int × Int)=>⟨tab 42 (updT (updT (updT (updT deadT 0 (.pal 0 [] 0 b.1.length none)) 1 (.clo 43 [.iref 1 [[.iref 4 [[.dead,.val (.int .i64 k1_0_0_1),.dead,.dead]] 0 0]] 0 0])) 5 (.val (.int .i64 b.2.1))) 6 (.val (.int .i64 b.2.2))),(upd RZ 0 (.sl true none 10 none (b.1.map af.row)))⟩) (a0,r1,IntKind.i64.wrap (r1+1)) h ?_ ?_)))
 ·refine wr ?_ ?_<;>repeat' first|rfl|constructor|simp only [go_sem,seval,Bool.or_self,List.length_set,Int.natCast_zero,Int.cast_ofNat_Int,hr1,hc2d]
 rintro n ⟨l4,v5,v6⟩ h -;cases n with
 | zero=>simp [av] at h
 | succ n=>
 simp only [av] at h;refine Wk_seq (Ws fun Z hZ=>?_);simp only [go_sem,seval];refine hZ _ (pp (sw (bj rfl) (fun hc3=>?_) (fun hc3=>?_)))
 ·have hc3d:=decide_eq_false hc3;rw [if_neg hc3] at h;refine dL (pp ?_);unfold aS at h;refine Wk_seq ?_;obtain ⟨hs12,h⟩:=qC h;try simp only [Int.toNat_natCast] at hs12 h
  refine ae fun Z hZ=>?_;simp only [go_sem,seval,hc3d,hs12,Nat.zero_le,wS (row:=af.row) (z:=(af.mk 0 (ReplyV.mk (⟨#[]⟩) 0 OV.nil 0 (ValueV.mk 0 0 (⟨#[]⟩) OV.nil OV.nil)))) (rz:=[.val (.int .i64 0),.val (.string (⟨#[]⟩)),.val (.int .i64 0),.val (.slice none 0 0),.val (.int .i64 0),.val (.int .i64 0),.val (.int .i64 0),.val (.string (⟨#[]⟩)),.val (.slice none 0 0),.val (.slice none 0 0)]) (k:=(v5).toNat) (l:=l4) (by have:=hs12; omega) rfl,altX,clearX,al,RowOk.allD af.row_ok];refine hZ _ (pp (Wk_seq ?_));obtain ⟨hs13,h⟩:=qC h;try simp only [Int.toNat_zero] at hs13 h
  refine ae fun Z hZ=>?_;simp only [go_sem,seval,hs12,Nat.sub_zero,deepV,hs13];refine hZ _ (pp (Wk_ret (pp ?_)));cases h;simp only [go_sem,seval,fG];exact ⟨_,rfl,RokI.h,KeepI.h,PureI.h⟩
 have hc3d:=decide_eq_true hc3;rw [if_pos hc3] at h;refine ak (pp (Wk_seq (aA (Wk_seq ?_))));obtain ⟨x13,hb4,hx5,h⟩:=eA h;refine ae fun Z hZ=>?_;simp only [go_sem,seval,hb4,hx5];refine hZ _ (pp (Wk_seq ?_));obtain ⟨r14,hr6,h⟩:=Option.bind_eq_some_iff.1 h;refine ae fun Z hZ=>?_;simp only [go_sem,seval,hr6];refine hZ _ (pp (sw (eS rfl) (fun hc7=>?_) (fun hc7=>?_)))
 ·rw [if_pos hc7] at h;refine ak (pp (ae fun Z hZ=>?_));simp only [go_sem,seval,hc7];refine hZ _ (pp (⟨_,Nat.lt_succ_self _,(l4,v5,IntKind.i64.wrap (v6+1)),?_,h⟩));refine wr ?_ ?_<;>repeat' first|rfl|constructor|simp only [go_sem,seval,Bool.or_self,List.length_set,Int.natCast_zero,Int.cast_ofNat_Int,hr1,hc2d,hc3d,hb4,hx5,hr6,hc7]
 rw [if_neg (ne_true_of_eq_false hc7)] at h;refine Wk_seq ?_;obtain ⟨x15,hb8,hx9,h⟩:=eA h;have hx11:=uk (y:=x13) hx9;refine ae fun Z hZ=>?_;simp only [go_sem,seval,hc7,hb8,hx9,mv (row:=af.row) (y:=x13) (rx:=[.val (.int .i64 x15.Seq),.val (.string x15.Reply.Client),.val (.int .i64 x15.Reply.Seq),.val x15.Reply.Path.1,.val (.int .i64 x15.Reply.Err),.val (.int .i64 x15.Reply.Value.Kind),.val (.int .i64 x15.Reply.Value.N),.val (.string x15.Reply.Value.S),.val x15.Reply.Value.I.1,.val x15.Reply.Value.L.1]) (ry:=[.val (.int .i64 x13.Seq),.val (.string x13.Reply.Client),.val (.int .i64 x13.Reply.Seq),.val x13.Reply.Path.1,.val (.int .i64 x13.Reply.Err),.val (.int .i64 x13.Reply.Value.Kind),.val (.int .i64 x13.Reply.Value.N),.val (.string x13.Reply.Value.S),.val x13.Reply.Value.I.1,.val x13.Reply.Value.L.1]) hx9 rfl rfl];refine hZ _ (pp (ae fun Z hZ=>?_));simp only [go_sem,seval];refine hZ _ (pp (ae fun Z hZ=>?_));simp only [go_sem,seval];refine hZ _ (pp (⟨_,Nat.lt_succ_self _,((l4.set ((v5).toNat) x13),IntKind.i64.wrap (v5+1),IntKind.i64.wrap (v6+1)),?_,h⟩));refine wr ?_ ?_<;>repeat' first|rfl|constructor|simp only [go_sem,seval,List.length_set]
def fso_slices_DeleteFunc_Answer_dedup_Acknowledge_1 (N:Nat):FnS:={ own:=[true,false],pure:=true,fn:=fun cs=>match cs with
 | [c0,.clo 43 [.iref 1 [[.iref 4 [[_,k1_0_0_1,_,_]] 0 0]] 0 0]]=>((decO 10 af.dec) c0).bind fun q0=>((decI .i64) k1_0_0_1).bind fun q1=>(aW N q0 q1).map fun r=>.sl true none 10 none (r.map af.row)
 | _=>none }
theorem gy (N:Nat):(fso_slices_DeleteFunc_Answer_dedup_Acknowledge_1 N).own=[true,false]:=rfl
theorem ga (N:Nat):(fso_slices_DeleteFunc_Answer_dedup_Acknowledge_1 N).pure=true:=rfl
theorem gb (N:Nat):(fso_slices_DeleteFunc_Answer_dedup_Acknowledge_1 N).peek=false:=rfl
attribute [go_sem] fso_slices_DeleteFunc_Answer_dedup_Acknowledge_1 gy ga gb
theorem fso_slices_DeleteFunc_Answer_dedup_Acknowledge_1_ok (N:Nat):FSOk Try.prog 42 (fso_slices_DeleteFunc_Answer_dedup_Acknowledge_1 N):=by
 refine ⟨fun cs r h=>?_,fun h=>by cases h⟩;simp only [fso_slices_DeleteFunc_Answer_dedup_Acknowledge_1] at h;split at h
 ·simp only [Option.bind_eq_some_iff,Option.map_eq_some_iff] at h;obtain ⟨q0,h0,q1,h1,r',hr,rfl⟩:=h;exact (ic N q0 q1 r' hr).argsO rfl (gK (jI af.row_ok af.dec_le h0) (mj (Le.clo (LeL.cons (Le.iref1 (LeL.cons (Le.iref1 (LeL.cons (Le.dead _) (LeL.cons (aj h1) (LeL.cons (Le.dead _) (LeL.cons (Le.dead _) (LeL.nil)))))) (LeL.nil))) (LeL.nil))) (lk)))
 ·cases h

def kq (lo:Int) (s:Int):Bool:=!decide (s<=lo)
theorem tW (N:Nat) (lo:Int):∀ (xs:List af) (k:Nat),aK N lo xs k ()=some (match xs.findIdx? (fun a=>!kq lo a.Seq) with|some i=>(((k+i:Nat)):Int)|none=>-1):=by
 intro xs
 induction xs with
 | nil=>intro k; rfl
 | cons x xs ih=>
  intro k;simp only [aK,eb,Option.bind_some,List.findIdx?_cons,kq,Bool.not_not];by_cases h:x.Seq<=lo
  ·simp [h]
  ·simp only [h,decide_false,Bool.false_eq_true,if_false,ih];simp only [kq,Bool.not_not];cases xs.findIdx? (fun a=>decide (a.Seq<=lo)) with
   | none=>rfl
   | some i=>
    have e:k+1+i=k+(i+1):=by omega
    simp only [Option.map_some,e]
theorem del_J1 (l:List af) (i:Nat) (h:i<=l.length):aS l (i:Int)=some (l.take i):=by
 unfold aS slx;rw [if_pos ⟨by omega,by omega,by omega,by omega⟩,if_pos ⟨by omega,by omega,by omega,by rw [za (by omega)]; omega⟩];simp only [Int.toNat_natCast];rw [wD h]
theorem del_L1 (N:Nat) (lo:Int) (lv:List af) (hb:lv.length<=4611686018427387904):∀ (n i j:Nat) (l4:List af),j<=lv.length->l4.length=lv.length->l4.drop j=lv.drop j->i<=j->l4.take i=(lv.take j).filter (fun a=>kq lo a.Seq)->lv.length - j < n ->
  av N lo aS n (l4,(i:Int),(j:Int))=some (lv.filter fun a=>kq lo a.Seq):=by
 intro n
 induction n with
 | zero=>intro i j l4 _ _ _ _ _ h; omega
 | succ n ih=>
  intro i j l4 hj hl hd hij ht hn;simp only [av];by_cases hlt:j < lv.length
  ·have hx:l4[j]?=some lv[j]:=by
    have:=congrArg (fun l=>l[0]?) hd;simpa [List.getElem?_drop,hlt] using this
   have hw:∀ k:Nat,k < lv.length->IntKind.i64.wrap ((k:Int)+1)=((k+1:Nat):Int):=fun k hk=>by rw [dY (n:=(k:Int)+1) (by omega) (by omega)]; omega
   rw [if_pos (by omega),gx_nat hx];simp only [eb,Option.bind_some];have htk:(lv.take (j+1)).filter (fun a=>kq lo a.Seq)=(lv.take j).filter (fun a=>kq lo a.Seq)++(if kq lo lv[j].Seq then [lv[j]] else []):=by
    rw [List.take_succ_eq_append_getElem hlt,List.filter_append];simp [List.filter_cons]
   have hd1:l4.drop (j+1)=lv.drop (j+1):=by
    have:=congrArg (List.drop 1) hd;simpa [List.drop_drop,Nat.add_comm] using this
   by_cases hq:lv[j].Seq<=lo
   ·simp only [hq,decide_true,if_true];rw [hw j hlt];exact ih i (j+1) l4 hlt hl hd1 (by omega) (by rw [htk,ht]; simp [kq,hq]) (by omega)
   ·simp only [hq,decide_false,Bool.false_eq_true,if_false];have hi:i < l4.length:=by omega
    rw [gx_nat (List.getElem?_eq_getElem hi),hw j hlt,hw i (by omega),Int.toNat_natCast];refine ih (i+1) (j+1) (l4.set i lv[j]) hlt (by simpa using hl) ?_ (by omega) ?_ (by omega)
    ·rw [List.drop_set_of_lt (by omega)]; exact hd1
    ·rw [htk,if_pos (by simp [kq,hq]),<-ht,List.take_succ_eq_append_getElem (by simpa using hi),List.take_set_of_le (Nat.le_refl i)];simp
  ·have hje:j=lv.length:=by omega
   subst hje;rw [if_neg (by omega),del_J1 l4 i (by omega),ht,List.take_length]
theorem del_V (N:Nat) (lo:Int) (lv:List af) (hb:lv.length<=4611686018427387904) (hN:lv.length < N) :
  aW N lv lo=some (lv.filter fun a=>kq lo a.Seq):=by
 unfold aW ba;rw [tW,Option.bind_some];cases h:lv.findIdx? (fun a=>!kq lo a.Seq) with
 | none=>
  simp only [if_true];rw [List.filter_eq_self.2];intro a ha;have:=List.findIdx?_eq_none_iff.1 h a ha;simpa using this
 | some i=>
  obtain ⟨hi,h1,h2⟩:=List.findIdx?_eq_some_iff_getElem.1 h;simp only [Nat.zero_add];rw [if_neg (by omega),dY (n:=(i:Int)+1) (by omega) (by omega),show (i:Int)+1=((i+1:Nat):Int) from by omega];refine del_L1 N lo lv hb N i (i+1) lv (by omega) rfl rfl (by omega) ?_ (by omega);rw [List.take_succ_eq_append_getElem hi,List.filter_append,List.filter_eq_self.2]
  ·simp only [Bool.not_eq_true',Bool.not_eq_eq_eq_not,Bool.not_true] at h1;simp [List.filter_cons,h1]
  ·intro a ha;obtain ⟨k,hk⟩:=List.mem_iff_getElem?.1 ha;have hki:k < i:=by
    have:=(List.getElem?_eq_some_iff.1 hk).1;simp at this; omega
   rw [List.getElem?_take_of_lt hki] at hk;have:=h2 k hki;rw [(List.getElem?_eq_some_iff.1 hk).2] at this;simpa using this

/-- The places of what stays. -/
def fIdx {α:Type} (q:α->Bool) (l:List α):List Nat:=(List.range l.length).filter fun k=>(l[k]?).any q
theorem fIdx_nodup {α:Type} (q:α->Bool) (l:List α):(fIdx q l).Nodup:=List.Pairwise.filter _ List.nodup_range
theorem fIdx_lt {α:Type} (q:α->Bool) (l:List α):∀ k∈fIdx q l,k < l.length:=fun k hk=>by
 have:=(List.mem_filter.1 hk).1;simpa using this
theorem fIdx_pick {α β:Type} (q:α->Bool) (f:α->List β) (l:List α):pick (fIdx q l) (l.map f)=(l.filter q).map f:=by
 have key:∀ n,n<=l.length->pick ((List.range n).filter fun k=>(l[k]?).any q) (l.map f)=((l.take n).filter q).map f:=by
  intro n
  induction n with
  | zero=>intro _; rfl
  | succ n ih=>
   intro hn;rw [List.range_succ,List.filter_append,Bt,ih (by omega),List.take_succ_eq_append_getElem (by omega),List.filter_append,List.map_append]
   congr 1
   simp only [List.filter_cons,List.filter_nil,List.getElem?_eq_getElem (show n < l.length from by omega),Option.any_some];split
   ·simp [pick,List.getElem?_eq_getElem (show n < l.length from by omega)]
   ·rfl
 have:=key l.length (Nat.le_refl _);rw [List.take_length] at this;exact this

/-- A value of a row. -/
def ov (vr:List Go.Value) (j:Nat):OV:=match vr[j]? with
 | some v=>if h:v.oneCell'=true then ⟨v,h⟩ else OV.nil
 | none=>OV.nil
def mkV (x:Answer) (vr:List Go.Value):af:=af.mk x.Seq (ReplyV.mk x.Reply_.Client_ x.Reply_.Seq (ov vr 3) x.Reply_.Err (ValueV.mk x.Reply_.Value_.Kind x.Reply_.Value_.N x.Reply_.Value_.S (ov vr 8) (ov vr 9)))
theorem ov_at {vr:List Go.Value} {j:Nat} {v:Go.Value} (h:vr[j]?=some v) (h1:∀ v∈vr,v.oneCell'=true):(ov vr j).1=v:=by
 have hv:=h1 v (List.mem_of_getElem? h);simp only [ov,h,dif_pos hv]
theorem Ct {x:Answer} {vr:List Go.Value} (hl:vr.length=10) (h1:∀ v∈vr,v.oneCell'=true) (hx:∀ (j:Nat) y v,(Answer.row x)[j]?=some (.val y)->vr[j]?=some v->v=y):vr.map C.val=af.row (mkV x vr):=by
 match vr,hl,h1,hx with
 | [v0,v1,v2,v3,v4,v5,v6,v7,v8,v9],_,h1,hx=>
  have q0:=hx 0 _ v0 rfl rfl;have q1:=hx 1 _ v1 rfl rfl;have q2:=hx 2 _ v2 rfl rfl;have q4:=hx 4 _ v4 rfl rfl;have q5:=hx 5 _ v5 rfl rfl;have q6:=hx 6 _ v6 rfl rfl;have q7:=hx 7 _ v7 rfl rfl;have o3:=ov_at (vr:=[v0,v1,v2,v3,v4,v5,v6,v7,v8,v9]) (j:=3) rfl h1;have o8:=ov_at (vr:=[v0,v1,v2,v3,v4,v5,v6,v7,v8,v9]) (j:=8) rfl h1;have o9:=ov_at (vr:=[v0,v1,v2,v3,v4,v5,v6,v7,v8,v9]) (j:=9) rfl h1;subst q0 q1 q2 q4 q5 q6 q7;simp only [mkV,af.row,o3,o8,o9,List.map_cons,List.map_nil]
def mkVs:List Answer->List (List Go.Value)->List af
 | x::xs,v::vs=>mkV x v::mkVs xs vs
 | _,_=>[]
theorem wR:∀ (l:List Answer) (V:List (List Go.Value)),V.length=l.length->(∀ vr∈V,vr.length=10)->(∀ vr∈V,∀ v∈vr,v.oneCell'=true) ->
  (∀ (i j:Nat) row vr x v,(l.map Answer.row)[i]?=some row->V[i]?=some vr->row[j]?=some (.val x)->vr[j]?=some v->v=x) ->
  bV V=(mkVs l V).map af.row/\(mkVs l V).length=l.length/\∀ (k:Nat),((mkVs l V)[k]?).map (·.Seq)=(l[k]?).map (·.Seq)
 | [],[],_,_,_,_=>⟨rfl,rfl,fun k=>rfl⟩
 | [],_::_,h,_,_,_=>by simp at h
 | _::_,[],h,_,_,_=>by simp at h
 | x::l,v::V,h,hw,h1,hx=>by
  obtain ⟨e1,e2,e3⟩:=wR l V (by simpa using h) (fun vr hv=>hw vr (by simp [hv])) (fun vr hv=>h1 vr (by simp [hv])) (fun i j row vr y z g1 g2 g3 g4=>hx (i+1) j row vr y z (by simpa using g1) (by simpa using g2) g3 g4);refine ⟨?_,by simp [mkVs,e2],fun k=>?_⟩
  ·simp only [bV] at e1;simp only [bV,mkVs,List.map_cons,e1];rw [Ct (x:=x) (hw v (by simp)) (h1 v (by simp)) (fun j y z g1 g2=>hx 0 j _ v y z (by simp) (by simp) g1 g2)]
  ·cases k with
   | zero=>rfl
   | succ k=>simpa [mkVs] using e3 k
theorem Cs {α β:Type} {q:α->Bool} {q':β->Bool} {l:List α} {l':List β} (hl:l'.length=l.length) (h:∀ k:Nat,(l'[k]?).any q'=(l[k]?).any q):fIdx q' l'=fIdx q l:=by
 unfold fIdx;rw [hl];exact List.filter_congr fun k _=>h k
/-- What the library's function says of raw rows,for every way in which the rows' values may lie. -/
theorem del_raw (N:Nat) (lo:Int) (l:List Answer) (hb:l.length<=4611686018427387904) (hN:l.length < N):∀ V:List (List Go.Value),V.length=(l.map Answer.row).length->(∀ vr∈V,vr.length=10)->(∀ vr∈V,∀ v∈vr,v.oneCell'=true) ->
  (∀ (i j:Nat) row vr x v,(l.map Answer.row)[i]?=some row->V[i]?=some vr->row[j]?=some (.val x)->vr[j]?=some v->v=x) ->
  (fso_slices_DeleteFunc_Answer_dedup_Acknowledge_1 N).fn [.sl true none 10 none (bV V),.clo 43 [.iref 1 [[.iref 4 [[.dead,.val (.int .i64 lo),.dead,.dead]] 0 0]] 0 0]]=some (.sl true none 10 none (bV (pick (fIdx (fun a:Answer=>kq lo a.Seq) l) V))):=by
 intro V h1 h2 h3 h4;obtain ⟨e1,e2,e3⟩:=wR l V (by simpa using h1) h2 h3 h4;have e4:fIdx (fun a:af=>kq lo a.Seq) (mkVs l V)=fIdx (fun a:Answer=>kq lo a.Seq) l:=by
  refine Cs e2 fun k=>?_;have:=e3 k;cases h:(mkVs l V)[k]?<;>cases h':l[k]?<;>simp_all
 have e5:bV (pick (fIdx (fun a:Answer=>kq lo a.Seq) l) V)=((mkVs l V).filter fun a=>kq lo a.Seq).map af.row:=by
  rw [<-fIdx_pick,e4,<-e1];simp only [bV,pick,List.map_map];refine List.map_congr_left fun k _=>?_;simp only [Function.comp,List.getElem?_map];cases V[k]?<;>rfl
 rw [e5,e1];simp only [fso_slices_DeleteFunc_Answer_dedup_Acknowledge_1,decO,RowOk.allPlain af.row_ok,and_self,if_true,be af.dec_row,gu,Option.bind_some,del_V N lo _ (by rw [e2]; exact hb) (by rw [e2]; exact hN),Option.map_some]
theorem answer_one (l:List Answer):∀ row∈l.map Answer.row,∀ c∈row,oneR c=true:=by
 intro row hr c hc;obtain ⟨x,_,rfl⟩:=List.mem_map.1 hr;have:(Answer.row x).all oneR=true:=rfl;exact List.all_eq_true.1 this c hc
theorem less_low {a c d:C} {lo:Int}:∀ (j:Nat) (x:C),[C.dead,.val (.int .i64 lo),.dead,.dead][j]?=some x->x=.dead∨∃ v,x=.val v/\[a,.val (.int .i64 lo),c,d][j]?=some (.val v)
 | 0,x,h=>.inl (by simpa using h.symm)
 | 1,x,h=>.inr ⟨_,by simpa using h.symm,rfl⟩
 | 2,x,h=>.inl (by simpa using h.symm)
 | 3,x,h=>.inl (by simpa using h.symm)
 | j+4,x,h=>by simp at h
end Go.Proofs.Yteldkhmcgloafaa.V
namespace Go.Proofs.Yteldkhmcgloafaa
open Go Go.Proofs Go.Abs
theorem yp {N:Nat} {l r:List Answer} {lo:Int} (h:delAck N l lo=some r):(l.length < N/\l.length<=4611686018427387904)/\(l.filter fun a=>V.kq lo a.Seq)=r:=by
 unfold delAck at h;split at h
 ·rename_i hb; exact ⟨hb,Option.some.inj h⟩
 ·cases h
noncomputable def qQ (N:Nat):FnS:=V.fso_slices_DeleteFunc_Answer_dedup_Acknowledge_1 N
theorem vE (N:Nat):FSOk Try.prog 42 (qQ N):=V.fso_slices_DeleteFunc_Answer_dedup_Acknowledge_1_ok N
end Go.Proofs.Yteldkhmcgloafaa
