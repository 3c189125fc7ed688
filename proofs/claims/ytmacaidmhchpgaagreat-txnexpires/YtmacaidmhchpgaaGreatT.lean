/- The types. No statement. -/
import Derived.Test.YtmacaidmhchpgaaGreatAbsG
/- The types of the program as Lean structures. -/
set_option maxHeartbeats 40000000
set_option synthInstance.maxHeartbeats 2000000
set_option synthInstance.maxSize 4000
set_option linter.unusedSimpArgs false
set_option linter.unusedVariables false
set_option maxRecDepth 100000
namespace Go.Proofs.YtmacaidmhchpgaaGreat
open Go Go.Proofs Go.Abs
structure aj where
 Kind:Int
 Who:Int
 Arg:Int
 N:Int
 deriving Inhabited
theorem aj.eta (x:aj):aj.mk x.Kind x.Who x.Arg x.N=x:=rfl
def aj.row (x:aj):List C:=[.val (.int .u8 x.Kind),.val (.int .u8 x.Who),.val (.int .u8 x.Arg),.val (.int .i64 x.N)]
def aj.dec:List C->Option aj
 | [c0,c1,c2,c3]=>((aG .u8) c0).bind fun a0=>((aG .u8) c1).bind fun a1=>((aG .u8) c2).bind fun a2=>((aG .i64) c3).bind fun a3=>some (aj.mk a0 a1 a2 a3)
 | _=>none
theorem aj.dec_row (x:aj):aj.dec (aj.row x)=some x:=by
 simp only [aj.row,aj.dec,iJ,iN,iL,mB,acC]
theorem aj.dec_le:∀ (r:List C) (x:aj),aj.dec r=some x->LeL r (aj.row x):=by
 intro r x h;unfold aj.dec at h;split at h
 ·simp only [acG,acB] at h;obtain ⟨a0,h0,a1,h1,a2,h2,a3,h3,rfl⟩:=h;exact LeL.cons (bz h0) (LeL.cons (bz h1) (LeL.cons (bz h2) (LeL.cons (bz h3) (LeL.nil))))
 ·cases h
theorem aj.row_ok:aF aj.row:=⟨fun _=>rfl,fun _=>rfl,fun _=>rfl⟩
instance:yN aj.row:=⟨aj.row_ok⟩
instance (cs:List C) (x:aj) [h:iV cs [.val (.int .u8 x.Kind),.val (.int .u8 x.Who),.val (.int .u8 x.Arg),.val (.int .i64 x.N)]]:iV cs (aj.row x):=⟨h.h⟩
theorem aj.row_pure:∀ x,∀ c∈aj.row x,bB c:=fun x=>jg (bB.val _) (jg (bB.val _) (jg (bB.val _) (jg (bB.val _) (vQ))))
theorem aj.dec_eq:∀ (r:List C) (x:aj),aj.dec r=some x->r=aj.row x:=by
 intro r x h;unfold aj.dec at h;split at h
 ·simp only [acG,acB] at h;obtain ⟨a0,h0,a1,h1,a2,h2,a3,h3,rfl⟩:=h;rw [vW h0,vW h1,vW h2,vW h3]; rfl
 ·cases h
instance:FE aj.row:=⟨aj.row_pure⟩
def aj.decA:C->Option aj
 | .agg cs=>aj.dec cs
 | _=>none
theorem aj.decA_le {c:C} {x:aj} (h:aj.decA c=some x):Le c (.agg (aj.row x)):=by
 unfold aj.decA at h;split at h
 ·exact Le.agg (aj.dec_le _ _ h)
 ·cases h
structure Ref where
 Type_:ByteArray
 Key:ByteArray
 deriving Inhabited
theorem Ref.eta (x:Ref):Ref.mk x.Type_ x.Key=x:=rfl
def Ref.row (x:Ref):List C:=[.val (.string x.Type_),.val (.string x.Key)]
def Ref.dec:List C->Option Ref
 | [c0,c1]=>(bW c0).bind fun a0=>(bW c1).bind fun a1=>some (Ref.mk a0 a1)
 | _=>none
theorem Ref.dec_row (x:Ref):Ref.dec (Ref.row x)=some x:=by
 simp only [Ref.row,Ref.dec,iJ,iN,iL,mB,acC]
theorem Ref.dec_le:∀ (r:List C) (x:Ref),Ref.dec r=some x->LeL r (Ref.row x):=by
 intro r x h;unfold Ref.dec at h;split at h
 ·simp only [acG,acB] at h;obtain ⟨a0,h0,a1,h1,rfl⟩:=h;exact LeL.cons (gw h0) (LeL.cons (gw h1) (LeL.nil))
 ·cases h
theorem Ref.row_ok:aF Ref.row:=⟨fun _=>rfl,fun _=>rfl,fun _=>rfl⟩
instance:yN Ref.row:=⟨Ref.row_ok⟩
instance (cs:List C) (x:Ref) [h:iV cs [.val (.string x.Type_),.val (.string x.Key)]]:iV cs (Ref.row x):=⟨h.h⟩
theorem Ref.row_pure:∀ x,∀ c∈Ref.row x,bB c:=fun x=>jg (bB.val _) (jg (bB.val _) (vQ))
theorem Ref.dec_eq:∀ (r:List C) (x:Ref),Ref.dec r=some x->r=Ref.row x:=by
 intro r x h;unfold Ref.dec at h;split at h
 ·simp only [acG,acB] at h;obtain ⟨a0,h0,a1,h1,rfl⟩:=h;rw [zb h0,zb h1]; rfl
 ·cases h
instance:FE Ref.row:=⟨Ref.row_pure⟩
def Ref.decA:C->Option Ref
 | .agg cs=>Ref.dec cs
 | _=>none
theorem Ref.decA_le {c:C} {x:Ref} (h:Ref.decA c=some x):Le c (.agg (Ref.row x)):=by
 unfold Ref.decA at h;split at h
 ·exact Le.agg (Ref.dec_le _ _ h)
 ·cases h
structure Value where
 Kind:Int
 N:Int
 S:ByteArray
 I:(List Int)
 L:(List ByteArray)
 deriving Inhabited
theorem Value.eta (x:Value):Value.mk x.Kind x.N x.S x.I x.L=x:=rfl
def Value.row (x:Value):List C:=[.val (.int .i64 x.Kind),.val (.int .i64 x.N),.val (.string x.S),.sl false none 1 none (x.I.map (ay .i64)),.sl false none 1 none (x.L.map dT)]
def Value.dec:List C->Option Value
 | [c0,c1,c2,c3,c4]=>((aG .i64) c0).bind fun a0=>((aG .i64) c1).bind fun a1=>(bW c2).bind fun a2=>((aJ 1 (du (aG .i64))) c3).bind fun a3=>((aJ 1 (du bW)) c4).bind fun a4=>some (Value.mk a0 a1 a2 a3 a4)
 | _=>none
theorem Value.dec_row (x:Value):Value.dec (Value.row x)=some x:=by
 simp only [Value.row,Value.dec,iJ,iN,iL,mB,acC,aP (y8 .i64),aP B1]
theorem Value.dec_le:∀ (r:List C) (x:Value),Value.dec r=some x->LeL r (Value.row x):=by
 intro r x h;unfold Value.dec at h;split at h
 ·simp only [acG,acB] at h;obtain ⟨a0,h0,a1,h1,a2,h2,a3,h3,a4,h4,rfl⟩:=h;exact LeL.cons (bz h0) (LeL.cons (bz h1) (LeL.cons (gw h2) (LeL.cons (iq (jw .i64) h3) (LeL.cons (iq G9 h4) (LeL.nil)))))
 ·cases h
theorem Value.row_ok:aF Value.row:=⟨fun _=>rfl,fun _=>rfl,fun _=>rfl⟩
instance:yN Value.row:=⟨Value.row_ok⟩
instance (cs:List C) (x:Value) [h:iV cs [.val (.int .i64 x.Kind),.val (.int .i64 x.N),.val (.string x.S),.sl false none 1 none (x.I.map (ay .i64)),.sl false none 1 none (x.L.map dT)]]:iV cs (Value.row x):=⟨h.h⟩
def Value.decX:List C->Option Value
 | [c0,c1,c2,c3,c4]=>((aG .i64) c0).bind fun a0=>((aG .i64) c1).bind fun a1=>(bW c2).bind fun a2=>((exF 1 (du (aG .i64))) c3).bind fun a3=>((exF 1 (du bW)) c4).bind fun a4=>some (Value.mk a0 a1 a2 a3 a4)
 | _=>none
theorem Value.decX_row (x:Value):Value.decX (Value.row x)=some x:=by
 simp only [Value.row,Value.decX,iJ,iN,iL,V8,acC,aP (y8 .i64),aP B1]
theorem Value.decX_eq:∀ (r:List C) (x:Value),Value.decX r=some x->r=Value.row x:=by
 intro r x h;unfold Value.decX at h;split at h
 ·simp only [acG,acB] at h;obtain ⟨a0,h0,a1,h1,a2,h2,a3,h3,a4,h4,rfl⟩:=h;rw [vW h0,vW h1,zb h2,PY (S8 (fun _ _ h=>vW h)) h3,PY (S8 (fun _ _ h=>zb h)) h4]; rfl
 ·cases h
def Value.decA:C->Option Value
 | .agg cs=>Value.dec cs
 | _=>none
theorem Value.decA_le {c:C} {x:Value} (h:Value.decA c=some x):Le c (.agg (Value.row x)):=by
 unfold Value.decA at h;split at h
 ·exact Le.agg (Value.dec_le _ _ h)
 ·cases h
structure ah where
 Target:Ref
 Method:ByteArray
 Args:(List Value)
 deriving Inhabited
theorem ah.eta (x:ah):ah.mk x.Target x.Method x.Args=x:=rfl
def ah.row (x:ah):List C:=[.val (.string x.Target.Type_),.val (.string x.Target.Key),.val (.string x.Method),.sl false none 5 none (x.Args.map Value.row)]
def ah.dec:List C->Option ah
 | [c0,c1,c2,c3]=>(bW c0).bind fun a0=>(bW c1).bind fun a1=>(bW c2).bind fun a2=>((aJ 5 Value.dec) c3).bind fun a3=>some (ah.mk (Ref.mk a0 a1) a2 a3)
 | _=>none
theorem ah.dec_row (x:ah):ah.dec (ah.row x)=some x:=by
 simp only [ah.row,ah.dec,iJ,iN,iL,mB,acC,aP Value.dec_row]
theorem ah.dec_le:∀ (r:List C) (x:ah),ah.dec r=some x->LeL r (ah.row x):=by
 intro r x h;unfold ah.dec at h;split at h
 ·simp only [acG,acB] at h;obtain ⟨a0,h0,a1,h1,a2,h2,a3,h3,rfl⟩:=h;exact LeL.cons (gw h0) (LeL.cons (gw h1) (LeL.cons (gw h2) (LeL.cons (iq Value.dec_le h3) (LeL.nil))))
 ·cases h
theorem ah.row_ok:aF ah.row:=⟨fun _=>rfl,fun _=>rfl,fun _=>rfl⟩
instance:yN ah.row:=⟨ah.row_ok⟩
instance (cs:List C) (x:ah) [h:iV cs [.val (.string x.Target.Type_),.val (.string x.Target.Key),.val (.string x.Method),.sl false none 5 none (x.Args.map Value.row)]]:iV cs (ah.row x):=⟨h.h⟩
def ah.decA:C->Option ah
 | .agg cs=>ah.dec cs
 | _=>none
theorem ah.decA_le {c:C} {x:ah} (h:ah.decA c=some x):Le c (.agg (ah.row x)):=by
 unfold ah.decA at h;split at h
 ·exact Le.agg (ah.dec_le _ _ h)
 ·cases h
structure Txn where
 ID:Int
 Born:Int
 Client:ByteArray
 Seq:Int
 Calls:(List ah)
 Done:Int
 Last:Value
 deriving Inhabited
theorem Txn.eta (x:Txn):Txn.mk x.ID x.Born x.Client x.Seq x.Calls x.Done x.Last=x:=rfl
def Txn.row (x:Txn):List C:=[.val (.int .i64 x.ID),.val (.int .i64 x.Born),.val (.string x.Client),.val (.int .i64 x.Seq),.sl false none 4 none (x.Calls.map ah.row),.val (.int .i64 x.Done),.val (.int .i64 x.Last.Kind),.val (.int .i64 x.Last.N),.val (.string x.Last.S),.sl false none 1 none (x.Last.I.map (ay .i64)),.sl false none 1 none (x.Last.L.map dT)]
def Txn.dec:List C->Option Txn
 | [c0,c1,c2,c3,c4,c5,c6,c7,c8,c9,c10]=>((aG .i64) c0).bind fun a0=>((aG .i64) c1).bind fun a1=>(bW c2).bind fun a2=>((aG .i64) c3).bind fun a3=>((aJ 4 ah.dec) c4).bind fun a4=>((aG .i64) c5).bind fun a5=>((aG .i64) c6).bind fun a6=>((aG .i64) c7).bind fun a7=>(bW c8).bind fun a8=>((aJ 1 (du (aG .i64))) c9).bind fun a9=>((aJ 1 (du bW)) c10).bind fun a10=>some (Txn.mk a0 a1 a2 a3 a4 a5 (Value.mk a6 a7 a8 a9 a10))
 | _=>none
theorem Txn.dec_row (x:Txn):Txn.dec (Txn.row x)=some x:=by
 simp only [Txn.row,Txn.dec,iJ,iN,iL,mB,acC,aP (y8 .i64),aP ah.dec_row,aP B1]
theorem Txn.dec_le:∀ (r:List C) (x:Txn),Txn.dec r=some x->LeL r (Txn.row x):=by
 intro r x h;unfold Txn.dec at h;split at h
 ·simp only [acG,acB] at h;obtain ⟨a0,h0,a1,h1,a2,h2,a3,h3,a4,h4,a5,h5,a6,h6,a7,h7,a8,h8,a9,h9,a10,h10,rfl⟩:=h;exact LeL.cons (bz h0) (LeL.cons (bz h1) (LeL.cons (gw h2) (LeL.cons (bz h3) (LeL.cons (iq ah.dec_le h4) (LeL.cons (bz h5) (LeL.cons (bz h6) (LeL.cons (bz h7) (LeL.cons (gw h8) (LeL.cons (iq (jw .i64) h9) (LeL.cons (iq G9 h10) (LeL.nil)))))))))))
 ·cases h
theorem Txn.row_ok:aF Txn.row:=⟨fun _=>rfl,fun _=>rfl,fun _=>rfl⟩
instance:yN Txn.row:=⟨Txn.row_ok⟩
instance (cs:List C) (x:Txn) [h:iV cs [.val (.int .i64 x.ID),.val (.int .i64 x.Born),.val (.string x.Client),.val (.int .i64 x.Seq),.sl false none 4 none (x.Calls.map ah.row),.val (.int .i64 x.Done),.val (.int .i64 x.Last.Kind),.val (.int .i64 x.Last.N),.val (.string x.Last.S),.sl false none 1 none (x.Last.I.map (ay .i64)),.sl false none 1 none (x.Last.L.map dT)]]:iV cs (Txn.row x):=⟨h.h⟩
def Txn.decA:C->Option Txn
 | .agg cs=>Txn.dec cs
 | _=>none
theorem Txn.decA_le {c:C} {x:Txn} (h:Txn.decA c=some x):Le c (.agg (Txn.row x)):=by
 unfold Txn.decA at h;split at h
 ·exact Le.agg (Txn.dec_le _ _ h)
 ·cases h
structure ai where
 Actor:Ref
 Owner:Int
 Waiters:(List Int)
 deriving Inhabited
theorem ai.eta (x:ai):ai.mk x.Actor x.Owner x.Waiters=x:=rfl
def ai.row (x:ai):List C:=[.val (.string x.Actor.Type_),.val (.string x.Actor.Key),.val (.int .i64 x.Owner),.sl false none 1 none (x.Waiters.map (ay .i64))]
def ai.dec:List C->Option ai
 | [c0,c1,c2,c3]=>(bW c0).bind fun a0=>(bW c1).bind fun a1=>((aG .i64) c2).bind fun a2=>((aJ 1 (du (aG .i64))) c3).bind fun a3=>some (ai.mk (Ref.mk a0 a1) a2 a3)
 | _=>none
theorem ai.dec_row (x:ai):ai.dec (ai.row x)=some x:=by
 simp only [ai.row,ai.dec,iJ,iN,iL,mB,acC,aP (y8 .i64)]
theorem ai.dec_le:∀ (r:List C) (x:ai),ai.dec r=some x->LeL r (ai.row x):=by
 intro r x h;unfold ai.dec at h;split at h
 ·simp only [acG,acB] at h;obtain ⟨a0,h0,a1,h1,a2,h2,a3,h3,rfl⟩:=h;exact LeL.cons (gw h0) (LeL.cons (gw h1) (LeL.cons (bz h2) (LeL.cons (iq (jw .i64) h3) (LeL.nil))))
 ·cases h
theorem ai.row_ok:aF ai.row:=⟨fun _=>rfl,fun _=>rfl,fun _=>rfl⟩
instance:yN ai.row:=⟨ai.row_ok⟩
instance (cs:List C) (x:ai) [h:iV cs [.val (.string x.Actor.Type_),.val (.string x.Actor.Key),.val (.int .i64 x.Owner),.sl false none 1 none (x.Waiters.map (ay .i64))]]:iV cs (ai.row x):=⟨h.h⟩
def ai.rowD (x:ai):List C:=[.val (.string x.Actor.Type_),.val (.string x.Actor.Key),.val (.int .i64 x.Owner),.sl true none 1 none (x.Waiters.map (ay .i64))]
instance:NT ai.rowD ai.row:=⟨fun x=>LeL.cons (Le.refl _) (LeL.cons (Le.refl _) (LeL.cons (Le.refl _) (LeL.cons (Le.sl (dw.refl _)) (LeL.nil))))⟩
def ai.decA:C->Option ai
 | .agg cs=>ai.dec cs
 | _=>none
theorem ai.decA_le {c:C} {x:ai} (h:ai.decA c=some x):Le c (.agg (ai.row x)):=by
 unfold ai.decA at h;split at h
 ·exact Le.agg (ai.dec_le _ _ h)
 ·cases h
structure al where
 Txn_:Int
 Fields:(List Value)
 Prepared:Bool
 deriving Inhabited
theorem al.eta (x:al):al.mk x.Txn_ x.Fields x.Prepared=x:=rfl
def al.row (x:al):List C:=[.val (.int .i64 x.Txn_),.sl false none 5 none (x.Fields.map Value.row),.val (.bool x.Prepared)]
def al.dec:List C->Option al
 | [c0,c1,c2]=>((aG .i64) c0).bind fun a0=>((aJ 5 Value.dec) c1).bind fun a1=>(DM c2).bind fun a2=>some (al.mk a0 a1 a2)
 | _=>none
theorem al.dec_row (x:al):al.dec (al.row x)=some x:=by
 simp only [al.row,al.dec,iJ,iN,iL,mB,acC,aP Value.dec_row]
theorem al.dec_le:∀ (r:List C) (x:al),al.dec r=some x->LeL r (al.row x):=by
 intro r x h;unfold al.dec at h;split at h
 ·simp only [acG,acB] at h;obtain ⟨a0,h0,a1,h1,a2,h2,rfl⟩:=h;exact LeL.cons (bz h0) (LeL.cons (iq Value.dec_le h1) (LeL.cons (Tl h2) (LeL.nil)))
 ·cases h
theorem al.row_ok:aF al.row:=⟨fun _=>rfl,fun _=>rfl,fun _=>rfl⟩
instance:yN al.row:=⟨al.row_ok⟩
instance (cs:List C) (x:al) [h:iV cs [.val (.int .i64 x.Txn_),.sl false none 5 none (x.Fields.map Value.row),.val (.bool x.Prepared)]]:iV cs (al.row x):=⟨h.h⟩
def al.decX:List C->Option al
 | [c0,c1,c2]=>((aG .i64) c0).bind fun a0=>((exF 5 Value.decX) c1).bind fun a1=>(DM c2).bind fun a2=>some (al.mk a0 a1 a2)
 | _=>none
theorem al.decX_row (x:al):al.decX (al.row x)=some x:=by
 simp only [al.row,al.decX,iJ,iN,iL,V8,acC,aP Value.decX_row]
theorem al.decX_eq:∀ (r:List C) (x:al),al.decX r=some x->r=al.row x:=by
 intro r x h;unfold al.decX at h;split at h
 ·simp only [acG,acB] at h;obtain ⟨a0,h0,a1,h1,a2,h2,rfl⟩:=h;rw [vW h0,PY Value.decX_eq h1,YI h2]; rfl
 ·cases h
def al.decA:C->Option al
 | .agg cs=>al.dec cs
 | _=>none
theorem al.decA_le {c:C} {x:al} (h:al.decA c=some x):Le c (.agg (al.row x)):=by
 unfold al.decA at h;split at h
 ·exact Le.agg (al.dec_le _ _ h)
 ·cases h
structure aa where
 Actor:Ref
 Layers:(List al)
 deriving Inhabited
theorem aa.eta (x:aa):aa.mk x.Actor x.Layers=x:=rfl
def aa.row (x:aa):List C:=[.val (.string x.Actor.Type_),.val (.string x.Actor.Key),.sl false none 3 none (x.Layers.map al.row)]
def aa.dec:List C->Option aa
 | [c0,c1,c2]=>(bW c0).bind fun a0=>(bW c1).bind fun a1=>((aJ 3 al.dec) c2).bind fun a2=>some (aa.mk (Ref.mk a0 a1) a2)
 | _=>none
theorem aa.dec_row (x:aa):aa.dec (aa.row x)=some x:=by
 simp only [aa.row,aa.dec,iJ,iN,iL,mB,acC,aP al.dec_row]
theorem aa.dec_le:∀ (r:List C) (x:aa),aa.dec r=some x->LeL r (aa.row x):=by
 intro r x h;unfold aa.dec at h;split at h
 ·simp only [acG,acB] at h;obtain ⟨a0,h0,a1,h1,a2,h2,rfl⟩:=h;exact LeL.cons (gw h0) (LeL.cons (gw h1) (LeL.cons (iq al.dec_le h2) (LeL.nil)))
 ·cases h
theorem aa.row_ok:aF aa.row:=⟨fun _=>rfl,fun _=>rfl,fun _=>rfl⟩
instance:yN aa.row:=⟨aa.row_ok⟩
instance (cs:List C) (x:aa) [h:iV cs [.val (.string x.Actor.Type_),.val (.string x.Actor.Key),.sl false none 3 none (x.Layers.map al.row)]]:iV cs (aa.row x):=⟨h.h⟩
def aa.rowD (x:aa):List C:=[.val (.string x.Actor.Type_),.val (.string x.Actor.Key),.sl true none 3 none (x.Layers.map al.row)]
instance:NT aa.rowD aa.row:=⟨fun x=>LeL.cons (Le.refl _) (LeL.cons (Le.refl _) (LeL.cons (Le.sl (dw.refl _)) (LeL.nil)))⟩
theorem aa.dec_rowD (x:aa):aa.dec (aa.rowD x)=some x:=by
 simp only [aa.rowD,aa.dec,iJ,iN,iL,mB,acC,aP al.dec_row]
def aa.decE:List C->Option aa
 | [c0,c1,c2]=>(bW c0).bind fun a0=>(bW c1).bind fun a1=>((exL 3 al.decX) c2).bind fun a2=>some (aa.mk (Ref.mk a0 a1) a2)
 | _=>none
theorem aa.decE_rowD (x:aa):aa.decE (aa.rowD x)=some x:=by
 simp only [aa.rowD,aa.decE,iJ,iN,iL,Y8,acC,aP al.decX_row]
theorem aa.decE_eq:∀ (r:List C) (x:aa),aa.decE r=some x->r=aa.rowD x:=by
 intro r x h;unfold aa.decE at h;split at h
 ·simp only [acG,acB] at h;obtain ⟨a0,h0,a1,h1,a2,h2,rfl⟩:=h;rw [zb h0,zb h1,V5 al.decX_eq h2]; rfl
 ·cases h
def aa.rowN (x:aa):List C:=[.val (.string x.Actor.Type_),.val (.string x.Actor.Key),.val (.slice none 0 0)]
def aa.decN:List C->Option aa
 | [c0,c1,.val (.slice none 0 0)]=>(bW c0).bind fun a0=>(bW c1).bind fun a1=>some (aa.mk (Ref.mk a0 a1) [])
 | _=>none
theorem aa.decN_le:∀ (r:List C) (x:aa),aa.decN r=some x->LeL r (aa.rowN x):=by
 intro r x h;unfold aa.decN at h;split at h
 ·simp only [acG,acB] at h;obtain ⟨a0,ha0,a1,ha1,rfl⟩:=h;exact LeL.cons (gw ha0) (LeL.cons (gw ha1) (LeL.cons (Le.refl _) (LeL.nil)))
 ·cases h
theorem aa.rowN_ok:aF aa.rowN:=⟨fun _=>rfl,fun _=>rfl,fun _=>rfl⟩
def aa.decA:C->Option aa
 | .agg cs=>aa.dec cs
 | _=>none
theorem aa.decA_le {c:C} {x:aa} (h:aa.decA c=some x):Le c (.agg (aa.row x)):=by
 unfold aa.decA at h;split at h
 ·exact Le.agg (aa.dec_le _ _ h)
 ·cases h
structure ae where
 Txns:(List Txn)
 Locks:(List ai)
 Stacks:(List aa)
 deriving Inhabited
theorem ae.eta (x:ae):ae.mk x.Txns x.Locks x.Stacks=x:=rfl
def ae.row (x:ae):List C:=[.sl false none 11 none (x.Txns.map Txn.row),.sl false none 4 none (x.Locks.map ai.row),.sl false none 3 none (x.Stacks.map aa.row)]
def ae.dec:List C->Option ae
 | [c0,c1,c2]=>((aJ 11 Txn.dec) c0).bind fun a0=>((aJ 4 ai.dec) c1).bind fun a1=>((aJ 3 aa.dec) c2).bind fun a2=>some (ae.mk a0 a1 a2)
 | _=>none
theorem ae.dec_row (x:ae):ae.dec (ae.row x)=some x:=by
 simp only [ae.row,ae.dec,iJ,iN,iL,mB,acC,aP aa.dec_row,aP ai.dec_row,aP Txn.dec_row]
theorem ae.dec_le:∀ (r:List C) (x:ae),ae.dec r=some x->LeL r (ae.row x):=by
 intro r x h;unfold ae.dec at h;split at h
 ·simp only [acG,acB] at h;obtain ⟨a0,h0,a1,h1,a2,h2,rfl⟩:=h;exact LeL.cons (iq Txn.dec_le h0) (LeL.cons (iq ai.dec_le h1) (LeL.cons (iq aa.dec_le h2) (LeL.nil)))
 ·cases h
theorem ae.row_ok:aF ae.row:=⟨fun _=>rfl,fun _=>rfl,fun _=>rfl⟩
instance:yN ae.row:=⟨ae.row_ok⟩
instance (cs:List C) (x:ae) [h:iV cs [.sl false none 11 none (x.Txns.map Txn.row),.sl false none 4 none (x.Locks.map ai.row),.sl false none 3 none (x.Stacks.map aa.row)]]:iV cs (ae.row x):=⟨h.h⟩
def ae.decA:C->Option ae
 | .agg cs=>ae.dec cs
 | _=>none
theorem ae.decA_le {c:C} {x:ae} (h:ae.decA c=some x):Le c (.agg (ae.row x)):=by
 unfold ae.decA at h;split at h
 ·exact Le.agg (ae.dec_le _ _ h)
 ·cases h
structure aR where
 Actor:Ref
 Fields:(List Value)
 deriving Inhabited
theorem aR.eta (x:aR):aR.mk x.Actor x.Fields=x:=rfl
def aR.row (x:aR):List C:=[.val (.string x.Actor.Type_),.val (.string x.Actor.Key),.sl false none 5 none (x.Fields.map Value.row)]
def aR.dec:List C->Option aR
 | [c0,c1,c2]=>(bW c0).bind fun a0=>(bW c1).bind fun a1=>((aJ 5 Value.dec) c2).bind fun a2=>some (aR.mk (Ref.mk a0 a1) a2)
 | _=>none
theorem aR.dec_row (x:aR):aR.dec (aR.row x)=some x:=by
 simp only [aR.row,aR.dec,iJ,iN,iL,mB,acC,aP Value.dec_row]
theorem aR.dec_le:∀ (r:List C) (x:aR),aR.dec r=some x->LeL r (aR.row x):=by
 intro r x h;unfold aR.dec at h;split at h
 ·simp only [acG,acB] at h;obtain ⟨a0,h0,a1,h1,a2,h2,rfl⟩:=h;exact LeL.cons (gw h0) (LeL.cons (gw h1) (LeL.cons (iq Value.dec_le h2) (LeL.nil)))
 ·cases h
theorem aR.row_ok:aF aR.row:=⟨fun _=>rfl,fun _=>rfl,fun _=>rfl⟩
instance:yN aR.row:=⟨aR.row_ok⟩
instance (cs:List C) (x:aR) [h:iV cs [.val (.string x.Actor.Type_),.val (.string x.Actor.Key),.sl false none 5 none (x.Fields.map Value.row)]]:iV cs (aR.row x):=⟨h.h⟩
def aR.decA:C->Option aR
 | .agg cs=>aR.dec cs
 | _=>none
theorem aR.decA_le {c:C} {x:aR} (h:aR.decA c=some x):Le c (.agg (aR.row x)):=by
 unfold aR.decA at h;split at h
 ·exact Le.agg (aR.dec_le _ _ h)
 ·cases h
structure aD where
 ID:Int
 Client:ByteArray
 Seq:Int
 Value_:Value
 Writes:(List aR)
 deriving Inhabited
theorem aD.eta (x:aD):aD.mk x.ID x.Client x.Seq x.Value_ x.Writes=x:=rfl
def aD.row (x:aD):List C:=[.val (.int .i64 x.ID),.val (.string x.Client),.val (.int .i64 x.Seq),.val (.int .i64 x.Value_.Kind),.val (.int .i64 x.Value_.N),.val (.string x.Value_.S),.sl false none 1 none (x.Value_.I.map (ay .i64)),.sl false none 1 none (x.Value_.L.map dT),.sl false none 3 none (x.Writes.map aR.row)]
def aD.dec:List C->Option aD
 | [c0,c1,c2,c3,c4,c5,c6,c7,c8]=>((aG .i64) c0).bind fun a0=>(bW c1).bind fun a1=>((aG .i64) c2).bind fun a2=>((aG .i64) c3).bind fun a3=>((aG .i64) c4).bind fun a4=>(bW c5).bind fun a5=>((aJ 1 (du (aG .i64))) c6).bind fun a6=>((aJ 1 (du bW)) c7).bind fun a7=>((aJ 3 aR.dec) c8).bind fun a8=>some (aD.mk a0 a1 a2 (Value.mk a3 a4 a5 a6 a7) a8)
 | _=>none
theorem aD.dec_row (x:aD):aD.dec (aD.row x)=some x:=by
 simp only [aD.row,aD.dec,iJ,iN,iL,mB,acC,aP (y8 .i64),aP aR.dec_row,aP B1]
theorem aD.dec_le:∀ (r:List C) (x:aD),aD.dec r=some x->LeL r (aD.row x):=by
 intro r x h;unfold aD.dec at h;split at h
 ·simp only [acG,acB] at h;obtain ⟨a0,h0,a1,h1,a2,h2,a3,h3,a4,h4,a5,h5,a6,h6,a7,h7,a8,h8,rfl⟩:=h;exact LeL.cons (bz h0) (LeL.cons (gw h1) (LeL.cons (bz h2) (LeL.cons (bz h3) (LeL.cons (bz h4) (LeL.cons (gw h5) (LeL.cons (iq (jw .i64) h6) (LeL.cons (iq G9 h7) (LeL.cons (iq aR.dec_le h8) (LeL.nil)))))))))
 ·cases h
theorem aD.row_ok:aF aD.row:=⟨fun _=>rfl,fun _=>rfl,fun _=>rfl⟩
instance:yN aD.row:=⟨aD.row_ok⟩
instance (cs:List C) (x:aD) [h:iV cs [.val (.int .i64 x.ID),.val (.string x.Client),.val (.int .i64 x.Seq),.val (.int .i64 x.Value_.Kind),.val (.int .i64 x.Value_.N),.val (.string x.Value_.S),.sl false none 1 none (x.Value_.I.map (ay .i64)),.sl false none 1 none (x.Value_.L.map dT),.sl false none 3 none (x.Writes.map aR.row)]]:iV cs (aD.row x):=⟨h.h⟩
def aD.decA:C->Option aD
 | .agg cs=>aD.dec cs
 | _=>none
theorem aD.decA_le {c:C} {x:aD} (h:aD.decA c=some x):Le c (.agg (aD.row x)):=by
 unfold aD.decA at h;split at h
 ·exact Le.agg (aD.dec_le _ _ h)
 ·cases h
structure az where
 Actor:Ref
 Txn_:Int
 deriving Inhabited
theorem az.eta (x:az):az.mk x.Actor x.Txn_=x:=rfl
def az.row (x:az):List C:=[.val (.string x.Actor.Type_),.val (.string x.Actor.Key),.val (.int .i64 x.Txn_)]
def az.dec:List C->Option az
 | [c0,c1,c2]=>(bW c0).bind fun a0=>(bW c1).bind fun a1=>((aG .i64) c2).bind fun a2=>some (az.mk (Ref.mk a0 a1) a2)
 | _=>none
theorem az.dec_row (x:az):az.dec (az.row x)=some x:=by
 simp only [az.row,az.dec,iJ,iN,iL,mB,acC]
theorem az.dec_le:∀ (r:List C) (x:az),az.dec r=some x->LeL r (az.row x):=by
 intro r x h;unfold az.dec at h;split at h
 ·simp only [acG,acB] at h;obtain ⟨a0,h0,a1,h1,a2,h2,rfl⟩:=h;exact LeL.cons (gw h0) (LeL.cons (gw h1) (LeL.cons (bz h2) (LeL.nil)))
 ·cases h
theorem az.row_ok:aF az.row:=⟨fun _=>rfl,fun _=>rfl,fun _=>rfl⟩
instance:yN az.row:=⟨az.row_ok⟩
instance (cs:List C) (x:az) [h:iV cs [.val (.string x.Actor.Type_),.val (.string x.Actor.Key),.val (.int .i64 x.Txn_)]]:iV cs (az.row x):=⟨h.h⟩
theorem az.row_pure:∀ x,∀ c∈az.row x,bB c:=fun x=>jg (bB.val _) (jg (bB.val _) (jg (bB.val _) (vQ)))
theorem az.dec_eq:∀ (r:List C) (x:az),az.dec r=some x->r=az.row x:=by
 intro r x h;unfold az.dec at h;split at h
 ·simp only [acG,acB] at h;obtain ⟨a0,h0,a1,h1,a2,h2,rfl⟩:=h;rw [zb h0,zb h1,vW h2]; rfl
 ·cases h
instance:FE az.row:=⟨az.row_pure⟩
def az.decA:C->Option az
 | .agg cs=>az.dec cs
 | _=>none
theorem az.decA_le {c:C} {x:az} (h:az.decA c=some x):Le c (.agg (az.row x)):=by
 unfold az.decA at h;split at h
 ·exact Le.agg (az.dec_le _ _ h)
 ·cases h
instance:Dr aj.dec aj.row:=⟨aj.dec_le⟩
instance:Dr Ref.dec Ref.row:=⟨Ref.dec_le⟩
instance:Dr Value.dec Value.row:=⟨Value.dec_le⟩
instance:Dr ah.dec ah.row:=⟨ah.dec_le⟩
instance:Dr Txn.dec Txn.row:=⟨Txn.dec_le⟩
instance:Dr ai.dec ai.row:=⟨ai.dec_le⟩
instance:Dr al.dec al.row:=⟨al.dec_le⟩
instance:Dr aa.dec aa.row:=⟨aa.dec_le⟩
instance:Dr ae.dec ae.row:=⟨ae.dec_le⟩
instance:Dr aR.dec aR.row:=⟨aR.dec_le⟩
instance:Dr aD.dec aD.row:=⟨aD.dec_le⟩
instance:Dr az.dec az.row:=⟨az.dec_le⟩
instance:Dc aj.decA (fun x=>.agg (aj.row x)):=⟨aj.decA_le⟩
instance:Dc Ref.decA (fun x=>.agg (Ref.row x)):=⟨Ref.decA_le⟩
instance:Dc Value.decA (fun x=>.agg (Value.row x)):=⟨Value.decA_le⟩
instance:Dc ah.decA (fun x=>.agg (ah.row x)):=⟨ah.decA_le⟩
instance:Dc Txn.decA (fun x=>.agg (Txn.row x)):=⟨Txn.decA_le⟩
instance:Dc ai.decA (fun x=>.agg (ai.row x)):=⟨ai.decA_le⟩
instance:Dc al.decA (fun x=>.agg (al.row x)):=⟨al.decA_le⟩
instance:Dc aa.decA (fun x=>.agg (aa.row x)):=⟨aa.decA_le⟩
instance:Dc ae.decA (fun x=>.agg (ae.row x)):=⟨ae.decA_le⟩
instance:Dc aR.decA (fun x=>.agg (aR.row x)):=⟨aR.decA_le⟩
instance:Dc aD.decA (fun x=>.agg (aD.row x)):=⟨aD.decA_le⟩
instance:Dc az.decA (fun x=>.agg (az.row x)):=⟨az.decA_le⟩
end Go.Proofs.YtmacaidmhchpgaaGreat
