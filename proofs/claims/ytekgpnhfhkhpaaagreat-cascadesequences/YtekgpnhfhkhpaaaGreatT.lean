/- The types. No statement. -/
import Derived.Test.YtekgpnhfhkhpaaaGreatAbsG
/- The types of the program as Lean structures. -/
set_option maxHeartbeats 40000000
set_option synthInstance.maxHeartbeats 2000000
set_option synthInstance.maxSize 4000
set_option linter.unusedSimpArgs false
set_option linter.unusedVariables false
set_option maxRecDepth 100000
namespace Go.Proofs.YtekgpnhfhkhpaaaGreat
open Go Go.Proofs Go.Abs
structure ah where
 Kind:Int
 Txn:Int
 Actor:Int
 deriving Inhabited
theorem ah.eta (x:ah):ah.mk x.Kind x.Txn x.Actor=x:=rfl
def ah.row (x:ah):List C:=[.val (.int .i64 x.Kind),.val (.int .i64 x.Txn),.val (.int .i64 x.Actor)]
def ah.dec:List C->Option ah
 | [c0,c1,c2]=>((decI .i64) c0).bind fun a0=>((decI .i64) c1).bind fun a1=>((decI .i64) c2).bind fun a2=>some (ah.mk a0 a1 a2)
 | _=>none
theorem ah.dec_row (x:ah):ah.dec (ah.row x)=some x:=by
 simp only [ah.row,ah.dec,gg,ge,gf,lD,Option.bind_some]
theorem ah.dec_le:∀ (r:List C) (x:ah),ah.dec r=some x->LeL r (ah.row x):=by
 intro r x h;unfold ah.dec at h;split at h
 ·simp only [Option.bind_eq_some_iff,Option.some.injEq] at h;obtain ⟨a0,h0,a1,h1,a2,h2,rfl⟩:=h;exact LeL.cons (ay h0) (LeL.cons (ay h1) (LeL.cons (ay h2) (LeL.nil)))
 ·cases h
theorem ah.row_ok:RowOk ah.row:=⟨fun _=>rfl,fun _=>rfl,fun _=>rfl⟩
instance:RowI ah.row:=⟨ah.row_ok⟩
instance (cs:List C) (x:ah) [h:LeIL cs [.val (.int .i64 x.Kind),.val (.int .i64 x.Txn),.val (.int .i64 x.Actor)]]:LeIL cs (ah.row x):=⟨h.h⟩
theorem ah.row_pure:∀ x,∀ c∈ah.row x,PureC c:=fun x=>aR (PureC.val _) (aR (PureC.val _) (aR (PureC.val _) (eC)))
theorem ah.dec_eq:∀ (r:List C) (x:ah),ah.dec r=some x->r=ah.row x:=by
 intro r x h;unfold ah.dec at h;split at h
 ·simp only [Option.bind_eq_some_iff,Option.some.injEq] at h;obtain ⟨a0,h0,a1,h1,a2,h2,rfl⟩:=h;rw [fW h0,fW h1,fW h2]; rfl
 ·cases h
instance:PureRI ah.row:=⟨ah.row_pure⟩
def ah.decA:C->Option ah
 | .agg cs=>ah.dec cs
 | _=>none
theorem ah.decA_le {c:C} {x:ah} (h:ah.decA c=some x):Le c (.agg (ah.row x)):=by
 unfold ah.decA at h;split at h
 ·exact Le.agg (ah.dec_le _ _ h)
 ·cases h
structure ae where
 e0:Int
 e1:Int
 deriving Inhabited
theorem ae.eta (x:ae):ae.mk x.e0 x.e1=x:=rfl
def ae.row (x:ae):List C:=[.val (.int .i64 x.e0),.val (.int .i64 x.e1)]
def ae.dec:List C->Option ae
 | [c0,c1]=>((decI .i64) c0).bind fun a0=>((decI .i64) c1).bind fun a1=>some (ae.mk a0 a1)
 | _=>none
theorem ae.dec_row (x:ae):ae.dec (ae.row x)=some x:=by
 simp only [ae.row,ae.dec,gg,ge,gf,lD,Option.bind_some]
theorem ae.dec_le:∀ (r:List C) (x:ae),ae.dec r=some x->LeL r (ae.row x):=by
 intro r x h;unfold ae.dec at h;split at h
 ·simp only [Option.bind_eq_some_iff,Option.some.injEq] at h;obtain ⟨a0,h0,a1,h1,rfl⟩:=h;exact LeL.cons (ay h0) (LeL.cons (ay h1) (LeL.nil))
 ·cases h
theorem ae.row_ok:RowOk ae.row:=⟨fun _=>rfl,fun _=>rfl,fun _=>rfl⟩
instance:RowI ae.row:=⟨ae.row_ok⟩
instance (cs:List C) (x:ae) [h:LeIL cs [.val (.int .i64 x.e0),.val (.int .i64 x.e1)]]:LeIL cs (ae.row x):=⟨h.h⟩
theorem ae.row_pure:∀ x,∀ c∈ae.row x,PureC c:=fun x=>aR (PureC.val _) (aR (PureC.val _) (eC))
theorem ae.dec_eq:∀ (r:List C) (x:ae),ae.dec r=some x->r=ae.row x:=by
 intro r x h;unfold ae.dec at h;split at h
 ·simp only [Option.bind_eq_some_iff,Option.some.injEq] at h;obtain ⟨a0,h0,a1,h1,rfl⟩:=h;rw [fW h0,fW h1]; rfl
 ·cases h
instance:PureRI ae.row:=⟨ae.row_pure⟩
def ae.decA:C->Option ae
 | .agg cs=>ae.dec cs
 | _=>none
theorem ae.decA_le {c:C} {x:ae} (h:ae.decA c=some x):Le c (.agg (ae.row x)):=by
 unfold ae.decA at h;split at h
 ·exact Le.agg (ae.dec_le _ _ h)
 ·cases h
structure aj where
 Kind:Int
 Txn:Int
 Actor:Int
 deriving Inhabited
theorem aj.eta (x:aj):aj.mk x.Kind x.Txn x.Actor=x:=rfl
def aj.row (x:aj):List C:=[.val (.int .u8 x.Kind),.val (.int .u8 x.Txn),.val (.int .u8 x.Actor)]
def aj.dec:List C->Option aj
 | [c0,c1,c2]=>((decI .u8) c0).bind fun a0=>((decI .u8) c1).bind fun a1=>((decI .u8) c2).bind fun a2=>some (aj.mk a0 a1 a2)
 | _=>none
theorem aj.dec_row (x:aj):aj.dec (aj.row x)=some x:=by
 simp only [aj.row,aj.dec,gg,ge,gf,lD,Option.bind_some]
theorem aj.dec_le:∀ (r:List C) (x:aj),aj.dec r=some x->LeL r (aj.row x):=by
 intro r x h;unfold aj.dec at h;split at h
 ·simp only [Option.bind_eq_some_iff,Option.some.injEq] at h;obtain ⟨a0,h0,a1,h1,a2,h2,rfl⟩:=h;exact LeL.cons (ay h0) (LeL.cons (ay h1) (LeL.cons (ay h2) (LeL.nil)))
 ·cases h
theorem aj.row_ok:RowOk aj.row:=⟨fun _=>rfl,fun _=>rfl,fun _=>rfl⟩
instance:RowI aj.row:=⟨aj.row_ok⟩
instance (cs:List C) (x:aj) [h:LeIL cs [.val (.int .u8 x.Kind),.val (.int .u8 x.Txn),.val (.int .u8 x.Actor)]]:LeIL cs (aj.row x):=⟨h.h⟩
theorem aj.row_pure:∀ x,∀ c∈aj.row x,PureC c:=fun x=>aR (PureC.val _) (aR (PureC.val _) (aR (PureC.val _) (eC)))
theorem aj.dec_eq:∀ (r:List C) (x:aj),aj.dec r=some x->r=aj.row x:=by
 intro r x h;unfold aj.dec at h;split at h
 ·simp only [Option.bind_eq_some_iff,Option.some.injEq] at h;obtain ⟨a0,h0,a1,h1,a2,h2,rfl⟩:=h;rw [fW h0,fW h1,fW h2]; rfl
 ·cases h
instance:PureRI aj.row:=⟨aj.row_pure⟩
def aj.decA:C->Option aj
 | .agg cs=>aj.dec cs
 | _=>none
theorem aj.decA_le {c:C} {x:aj} (h:aj.decA c=some x):Le c (.agg (aj.row x)):=by
 unfold aj.decA at h;split at h
 ·exact Le.agg (aj.dec_le _ _ h)
 ·cases h
structure ag where
 actor:Int
 txns:(List Int)
 deriving Inhabited
theorem ag.eta (x:ag):ag.mk x.actor x.txns=x:=rfl
def ag.row (x:ag):List C:=[.val (.int .i64 x.actor),.sl false none 1 none (x.txns.map (rowI .i64))]
def ag.dec:List C->Option ag
 | [c0,c1]=>((decI .i64) c0).bind fun a0=>((decL 1 (dec1 (decI .i64))) c1).bind fun a1=>some (ag.mk a0 a1)
 | _=>none
theorem ag.dec_row (x:ag):ag.dec (ag.row x)=some x:=by
 simp only [ag.row,ag.dec,gg,ge,gf,lD,Option.bind_some,aC (iv .i64)]
theorem ag.dec_le:∀ (r:List C) (x:ag),ag.dec r=some x->LeL r (ag.row x):=by
 intro r x h;unfold ag.dec at h;split at h
 ·simp only [Option.bind_eq_some_iff,Option.some.injEq] at h;obtain ⟨a0,h0,a1,h1,rfl⟩:=h;exact LeL.cons (ay h0) (LeL.cons (ar (aJ .i64) h1) (LeL.nil))
 ·cases h
theorem ag.row_ok:RowOk ag.row:=⟨fun _=>rfl,fun _=>rfl,fun _=>rfl⟩
instance:RowI ag.row:=⟨ag.row_ok⟩
instance (cs:List C) (x:ag) [h:LeIL cs [.val (.int .i64 x.actor),.sl false none 1 none (x.txns.map (rowI .i64))]]:LeIL cs (ag.row x):=⟨h.h⟩
def ag.rowD (x:ag):List C:=[.val (.int .i64 x.actor),.sl true none 1 none (x.txns.map (rowI .i64))]
instance:LeRF ag.rowD ag.row:=⟨fun x=>LeL.cons (Le.refl _) (LeL.cons (Le.sl (LeLL.refl _)) (LeL.nil))⟩
theorem ag.dec_rowD (x:ag):ag.dec (ag.rowD x)=some x:=by
 simp only [ag.rowD,ag.dec,gg,ge,gf,lD,Option.bind_some,aC (iv .i64)]
def ag.decE:List C->Option ag
 | [c0,c1]=>((decI .i64) c0).bind fun a0=>((exL 1 (dec1 (decI .i64))) c1).bind fun a1=>some (ag.mk a0 a1)
 | _=>none
theorem ag.decE_rowD (x:ag):ag.decE (ag.rowD x)=some x:=by
 simp only [ag.rowD,ag.decE,gg,ge,gf,exL_sl,Option.bind_some,aC (iv .i64)]
theorem ag.decE_eq:∀ (r:List C) (x:ag),ag.decE r=some x->r=ag.rowD x:=by
 intro r x h;unfold ag.decE at h;split at h
 ·simp only [Option.bind_eq_some_iff,Option.some.injEq] at h;obtain ⟨a0,h0,a1,h1,rfl⟩:=h;rw [fW h0,exL_eq (mU (fun _ _ h=>fW h)) h1]; rfl
 ·cases h
instance:PureRI ag.rowD:=⟨fun x=>aR (PureC.val _) (aR (PureC.sl (bG PureRI.h _)) (eC))⟩
instance (x:ag):PureIL (ag.rowD x):=⟨PureRI.h x⟩
def ag.decA:C->Option ag
 | .agg cs=>ag.dec cs
 | _=>none
theorem ag.decA_le {c:C} {x:ag} (h:ag.decA c=some x):Le c (.agg (ag.row x)):=by
 unfold ag.decA at h;split at h
 ·exact Le.agg (ag.dec_le _ _ h)
 ·cases h
structure af where
 stacks:(List ag)
 prepared:(List ae)
 known:(List Int)
 committed:(List Int)
 aborted:(List Int)
 deps:(List ae)
 deriving Inhabited
theorem af.eta (x:af):af.mk x.stacks x.prepared x.known x.committed x.aborted x.deps=x:=rfl
def af.row (x:af):List C:=[.sl false none 2 none (x.stacks.map ag.row),.sl false none 2 none (x.prepared.map ae.row),.sl false none 1 none (x.known.map (rowI .i64)),.sl false none 1 none (x.committed.map (rowI .i64)),.sl false none 1 none (x.aborted.map (rowI .i64)),.sl false none 2 none (x.deps.map ae.row)]
def af.dec:List C->Option af
 | [c0,c1,c2,c3,c4,c5]=>((decL 2 ag.dec) c0).bind fun a0=>((decL 2 ae.dec) c1).bind fun a1=>((decL 1 (dec1 (decI .i64))) c2).bind fun a2=>((decL 1 (dec1 (decI .i64))) c3).bind fun a3=>((decL 1 (dec1 (decI .i64))) c4).bind fun a4=>((decL 2 ae.dec) c5).bind fun a5=>some (af.mk a0 a1 a2 a3 a4 a5)
 | _=>none
theorem af.dec_row (x:af):af.dec (af.row x)=some x:=by
 simp only [af.row,af.dec,gg,ge,gf,lD,Option.bind_some,aC (iv .i64),aC ae.dec_row,aC ag.dec_row]
theorem af.dec_le:∀ (r:List C) (x:af),af.dec r=some x->LeL r (af.row x):=by
 intro r x h;unfold af.dec at h;split at h
 ·simp only [Option.bind_eq_some_iff,Option.some.injEq] at h;obtain ⟨a0,h0,a1,h1,a2,h2,a3,h3,a4,h4,a5,h5,rfl⟩:=h;exact LeL.cons (ar ag.dec_le h0) (LeL.cons (ar ae.dec_le h1) (LeL.cons (ar (aJ .i64) h2) (LeL.cons (ar (aJ .i64) h3) (LeL.cons (ar (aJ .i64) h4) (LeL.cons (ar ae.dec_le h5) (LeL.nil))))))
 ·cases h
theorem af.row_ok:RowOk af.row:=⟨fun _=>rfl,fun _=>rfl,fun _=>rfl⟩
instance:RowI af.row:=⟨af.row_ok⟩
instance (cs:List C) (x:af) [h:LeIL cs [.sl false none 2 none (x.stacks.map ag.row),.sl false none 2 none (x.prepared.map ae.row),.sl false none 1 none (x.known.map (rowI .i64)),.sl false none 1 none (x.committed.map (rowI .i64)),.sl false none 1 none (x.aborted.map (rowI .i64)),.sl false none 2 none (x.deps.map ae.row)]]:LeIL cs (af.row x):=⟨h.h⟩
def af.rowD (x:af):List C:=[.sl true none 2 none (x.stacks.map ag.rowD),.sl true none 2 none (x.prepared.map ae.row),.sl true none 1 none (x.known.map (rowI .i64)),.sl true none 1 none (x.committed.map (rowI .i64)),.sl true none 1 none (x.aborted.map (rowI .i64)),.sl true none 2 none (x.deps.map ae.row)]
instance:LeRF af.rowD af.row:=⟨fun x=>LeL.cons (Le.sl (LeLL.map LeRF.h _)) (LeL.cons (Le.sl (LeLL.refl _)) (LeL.cons (Le.sl (LeLL.refl _)) (LeL.cons (Le.sl (LeLL.refl _)) (LeL.cons (Le.sl (LeLL.refl _)) (LeL.cons (Le.sl (LeLL.refl _)) (LeL.nil))))))⟩
theorem af.dec_rowD (x:af):af.dec (af.rowD x)=some x:=by
 simp only [af.rowD,af.dec,gg,ge,gf,lD,Option.bind_some,aC (iv .i64),aC ae.dec_row,aC ag.dec_rowD]
def af.decE:List C->Option af
 | [c0,c1,c2,c3,c4,c5]=>((exL 2 ag.decE) c0).bind fun a0=>((exL 2 ae.dec) c1).bind fun a1=>((exL 1 (dec1 (decI .i64))) c2).bind fun a2=>((exL 1 (dec1 (decI .i64))) c3).bind fun a3=>((exL 1 (dec1 (decI .i64))) c4).bind fun a4=>((exL 2 ae.dec) c5).bind fun a5=>some (af.mk a0 a1 a2 a3 a4 a5)
 | _=>none
theorem af.decE_rowD (x:af):af.decE (af.rowD x)=some x:=by
 simp only [af.rowD,af.decE,gg,ge,gf,exL_sl,Option.bind_some,aC (iv .i64),aC ae.dec_row,aC ag.decE_rowD]
theorem af.decE_eq:∀ (r:List C) (x:af),af.decE r=some x->r=af.rowD x:=by
 intro r x h;unfold af.decE at h;split at h
 ·simp only [Option.bind_eq_some_iff,Option.some.injEq] at h;obtain ⟨a0,h0,a1,h1,a2,h2,a3,h3,a4,h4,a5,h5,rfl⟩:=h;rw [exL_eq ag.decE_eq h0,exL_eq ae.dec_eq h1,exL_eq (mU (fun _ _ h=>fW h)) h2,exL_eq (mU (fun _ _ h=>fW h)) h3,exL_eq (mU (fun _ _ h=>fW h)) h4,exL_eq ae.dec_eq h5]; rfl
 ·cases h
instance:PureRI af.rowD:=⟨fun x=>aR (PureC.sl (bG PureRI.h _)) (aR (PureC.sl (bG PureRI.h _)) (aR (PureC.sl (bG PureRI.h _)) (aR (PureC.sl (bG PureRI.h _)) (aR (PureC.sl (bG PureRI.h _)) (aR (PureC.sl (bG PureRI.h _)) (eC))))))⟩
instance (x:af):PureIL (af.rowD x):=⟨PureRI.h x⟩
def af.decA:C->Option af
 | .agg cs=>af.dec cs
 | _=>none
theorem af.decA_le {c:C} {x:af} (h:af.decA c=some x):Le c (.agg (af.row x)):=by
 unfold af.decA at h;split at h
 ·exact Le.agg (af.dec_le _ _ h)
 ·cases h
structure aa where
 actor:Int
 txns:(List Int)
 prepared:(List Bool)
 deriving Inhabited
theorem aa.eta (x:aa):aa.mk x.actor x.txns x.prepared=x:=rfl
def aa.row (x:aa):List C:=[.val (.int .i64 x.actor),.sl false none 1 none (x.txns.map (rowI .i64)),.sl false none 1 none (x.prepared.map rowB)]
def aa.dec:List C->Option aa
 | [c0,c1,c2]=>((decI .i64) c0).bind fun a0=>((decL 1 (dec1 (decI .i64))) c1).bind fun a1=>((decL 1 (dec1 decB)) c2).bind fun a2=>some (aa.mk a0 a1 a2)
 | _=>none
theorem aa.dec_row (x:aa):aa.dec (aa.row x)=some x:=by
 simp only [aa.row,aa.dec,gg,ge,gf,lD,Option.bind_some,aC (iv .i64),aC s9]
theorem aa.dec_le:∀ (r:List C) (x:aa),aa.dec r=some x->LeL r (aa.row x):=by
 intro r x h;unfold aa.dec at h;split at h
 ·simp only [Option.bind_eq_some_iff,Option.some.injEq] at h;obtain ⟨a0,h0,a1,h1,a2,h2,rfl⟩:=h;exact LeL.cons (ay h0) (LeL.cons (ar (aJ .i64) h1) (LeL.cons (ar E4 h2) (LeL.nil)))
 ·cases h
theorem aa.row_ok:RowOk aa.row:=⟨fun _=>rfl,fun _=>rfl,fun _=>rfl⟩
instance:RowI aa.row:=⟨aa.row_ok⟩
instance (cs:List C) (x:aa) [h:LeIL cs [.val (.int .i64 x.actor),.sl false none 1 none (x.txns.map (rowI .i64)),.sl false none 1 none (x.prepared.map rowB)]]:LeIL cs (aa.row x):=⟨h.h⟩
def aa.rowD (x:aa):List C:=[.val (.int .i64 x.actor),.sl true none 1 none (x.txns.map (rowI .i64)),.sl true none 1 none (x.prepared.map rowB)]
instance:LeRF aa.rowD aa.row:=⟨fun x=>LeL.cons (Le.refl _) (LeL.cons (Le.sl (LeLL.refl _)) (LeL.cons (Le.sl (LeLL.refl _)) (LeL.nil)))⟩
theorem aa.dec_rowD (x:aa):aa.dec (aa.rowD x)=some x:=by
 simp only [aa.rowD,aa.dec,gg,ge,gf,lD,Option.bind_some,aC (iv .i64),aC s9]
def aa.decE:List C->Option aa
 | [c0,c1,c2]=>((decI .i64) c0).bind fun a0=>((exL 1 (dec1 (decI .i64))) c1).bind fun a1=>((exL 1 (dec1 decB)) c2).bind fun a2=>some (aa.mk a0 a1 a2)
 | _=>none
theorem aa.decE_rowD (x:aa):aa.decE (aa.rowD x)=some x:=by
 simp only [aa.rowD,aa.decE,gg,ge,gf,exL_sl,Option.bind_some,aC (iv .i64),aC s9]
theorem aa.decE_eq:∀ (r:List C) (x:aa),aa.decE r=some x->r=aa.rowD x:=by
 intro r x h;unfold aa.decE at h;split at h
 ·simp only [Option.bind_eq_some_iff,Option.some.injEq] at h;obtain ⟨a0,h0,a1,h1,a2,h2,rfl⟩:=h;rw [fW h0,exL_eq (mU (fun _ _ h=>fW h)) h1,exL_eq (mU (fun _ _ h=>F4 h)) h2]; rfl
 ·cases h
instance:PureRI aa.rowD:=⟨fun x=>aR (PureC.val _) (aR (PureC.sl (bG PureRI.h _)) (aR (PureC.sl (bG PureRI.h _)) (eC)))⟩
instance (x:aa):PureIL (aa.rowD x):=⟨PureRI.h x⟩
def aa.decA:C->Option aa
 | .agg cs=>aa.dec cs
 | _=>none
theorem aa.decA_le {c:C} {x:aa} (h:aa.decA c=some x):Le c (.agg (aa.row x)):=by
 unfold aa.decA at h;split at h
 ·exact Le.agg (aa.dec_le _ _ h)
 ·cases h
structure ac where
 piles:(List aa)
 seen:(List Int)
 deps:(List ae)
 committed:(List Int)
 aborted:(List Int)
 prepared:(List Int)
 deriving Inhabited
theorem ac.eta (x:ac):ac.mk x.piles x.seen x.deps x.committed x.aborted x.prepared=x:=rfl
def ac.row (x:ac):List C:=[.sl false none 3 none (x.piles.map aa.row),.sl false none 1 none (x.seen.map (rowI .i64)),.sl false none 2 none (x.deps.map ae.row),.sl false none 1 none (x.committed.map (rowI .i64)),.sl false none 1 none (x.aborted.map (rowI .i64)),.sl false none 1 none (x.prepared.map (rowI .i64))]
def ac.dec:List C->Option ac
 | [c0,c1,c2,c3,c4,c5]=>((decL 3 aa.dec) c0).bind fun a0=>((decL 1 (dec1 (decI .i64))) c1).bind fun a1=>((decL 2 ae.dec) c2).bind fun a2=>((decL 1 (dec1 (decI .i64))) c3).bind fun a3=>((decL 1 (dec1 (decI .i64))) c4).bind fun a4=>((decL 1 (dec1 (decI .i64))) c5).bind fun a5=>some (ac.mk a0 a1 a2 a3 a4 a5)
 | _=>none
theorem ac.dec_row (x:ac):ac.dec (ac.row x)=some x:=by
 simp only [ac.row,ac.dec,gg,ge,gf,lD,Option.bind_some,aC (iv .i64),aC ae.dec_row,aC aa.dec_row]
theorem ac.dec_le:∀ (r:List C) (x:ac),ac.dec r=some x->LeL r (ac.row x):=by
 intro r x h;unfold ac.dec at h;split at h
 ·simp only [Option.bind_eq_some_iff,Option.some.injEq] at h;obtain ⟨a0,h0,a1,h1,a2,h2,a3,h3,a4,h4,a5,h5,rfl⟩:=h;exact LeL.cons (ar aa.dec_le h0) (LeL.cons (ar (aJ .i64) h1) (LeL.cons (ar ae.dec_le h2) (LeL.cons (ar (aJ .i64) h3) (LeL.cons (ar (aJ .i64) h4) (LeL.cons (ar (aJ .i64) h5) (LeL.nil))))))
 ·cases h
theorem ac.row_ok:RowOk ac.row:=⟨fun _=>rfl,fun _=>rfl,fun _=>rfl⟩
instance:RowI ac.row:=⟨ac.row_ok⟩
instance (cs:List C) (x:ac) [h:LeIL cs [.sl false none 3 none (x.piles.map aa.row),.sl false none 1 none (x.seen.map (rowI .i64)),.sl false none 2 none (x.deps.map ae.row),.sl false none 1 none (x.committed.map (rowI .i64)),.sl false none 1 none (x.aborted.map (rowI .i64)),.sl false none 1 none (x.prepared.map (rowI .i64))]]:LeIL cs (ac.row x):=⟨h.h⟩
def ac.rowD (x:ac):List C:=[.sl true none 3 none (x.piles.map aa.rowD),.sl true none 1 none (x.seen.map (rowI .i64)),.sl true none 2 none (x.deps.map ae.row),.sl true none 1 none (x.committed.map (rowI .i64)),.sl true none 1 none (x.aborted.map (rowI .i64)),.sl true none 1 none (x.prepared.map (rowI .i64))]
instance:LeRF ac.rowD ac.row:=⟨fun x=>LeL.cons (Le.sl (LeLL.map LeRF.h _)) (LeL.cons (Le.sl (LeLL.refl _)) (LeL.cons (Le.sl (LeLL.refl _)) (LeL.cons (Le.sl (LeLL.refl _)) (LeL.cons (Le.sl (LeLL.refl _)) (LeL.cons (Le.sl (LeLL.refl _)) (LeL.nil))))))⟩
theorem ac.dec_rowD (x:ac):ac.dec (ac.rowD x)=some x:=by
 simp only [ac.rowD,ac.dec,gg,ge,gf,lD,Option.bind_some,aC (iv .i64),aC ae.dec_row,aC aa.dec_rowD]
def ac.decE:List C->Option ac
 | [c0,c1,c2,c3,c4,c5]=>((exL 3 aa.decE) c0).bind fun a0=>((exL 1 (dec1 (decI .i64))) c1).bind fun a1=>((exL 2 ae.dec) c2).bind fun a2=>((exL 1 (dec1 (decI .i64))) c3).bind fun a3=>((exL 1 (dec1 (decI .i64))) c4).bind fun a4=>((exL 1 (dec1 (decI .i64))) c5).bind fun a5=>some (ac.mk a0 a1 a2 a3 a4 a5)
 | _=>none
theorem ac.decE_rowD (x:ac):ac.decE (ac.rowD x)=some x:=by
 simp only [ac.rowD,ac.decE,gg,ge,gf,exL_sl,Option.bind_some,aC (iv .i64),aC ae.dec_row,aC aa.decE_rowD]
theorem ac.decE_eq:∀ (r:List C) (x:ac),ac.decE r=some x->r=ac.rowD x:=by
 intro r x h;unfold ac.decE at h;split at h
 ·simp only [Option.bind_eq_some_iff,Option.some.injEq] at h;obtain ⟨a0,h0,a1,h1,a2,h2,a3,h3,a4,h4,a5,h5,rfl⟩:=h;rw [exL_eq aa.decE_eq h0,exL_eq (mU (fun _ _ h=>fW h)) h1,exL_eq ae.dec_eq h2,exL_eq (mU (fun _ _ h=>fW h)) h3,exL_eq (mU (fun _ _ h=>fW h)) h4,exL_eq (mU (fun _ _ h=>fW h)) h5]; rfl
 ·cases h
instance:PureRI ac.rowD:=⟨fun x=>aR (PureC.sl (bG PureRI.h _)) (aR (PureC.sl (bG PureRI.h _)) (aR (PureC.sl (bG PureRI.h _)) (aR (PureC.sl (bG PureRI.h _)) (aR (PureC.sl (bG PureRI.h _)) (aR (PureC.sl (bG PureRI.h _)) (eC))))))⟩
instance (x:ac):PureIL (ac.rowD x):=⟨PureRI.h x⟩
def ac.decA:C->Option ac
 | .agg cs=>ac.dec cs
 | _=>none
theorem ac.decA_le {c:C} {x:ac} (h:ac.decA c=some x):Le c (.agg (ac.row x)):=by
 unfold ac.decA at h;split at h
 ·exact Le.agg (ac.dec_le _ _ h)
 ·cases h
end Go.Proofs.YtekgpnhfhkhpaaaGreat
