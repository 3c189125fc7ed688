/- The types. No statement. -/
import Derived.Test.YteldkhmcgloafaaAbsF
/- The types of the program as Lean structures. -/
set_option maxHeartbeats 40000000
set_option synthInstance.maxHeartbeats 2000000
set_option synthInstance.maxSize 4000
set_option linter.unusedSimpArgs false
set_option linter.unusedVariables false
set_option maxRecDepth 100000
namespace Go.Proofs.Yteldkhmcgloafaa
open Go Go.Proofs Go.Abs
structure Value where
 Kind:Int
 N:Int
 S:ByteArray
 I:(List Int)
 L:(List ByteArray)
 deriving Inhabited
theorem Value.eta (x:Value):Value.mk x.Kind x.N x.S x.I x.L=x:=rfl
def Value.row (x:Value):List C:=[.val (.int .i64 x.Kind),.val (.int .i64 x.N),.val (.string x.S),.sl false none 1 none (x.I.map (rowI .i64)),.sl false none 1 none (x.L.map rowS)]
def Value.dec:List C->Option Value
 | [c0,c1,c2,c3,c4]=>((decI .i64) c0).bind fun a0=>((decI .i64) c1).bind fun a1=>(decS c2).bind fun a2=>((decL 1 (dec1 (decI .i64))) c3).bind fun a3=>((decL 1 (dec1 decS)) c4).bind fun a4=>some (Value.mk a0 a1 a2 a3 a4)
 | _=>none
theorem Value.dec_row (x:Value):Value.dec (Value.row x)=some x:=by
 simp only [Value.row,Value.dec,gu,gY,gX,jf,Option.bind_some,be (js .i64),be mG]
theorem Value.dec_le:∀ (r:List C) (x:Value),Value.dec r=some x->LeL r (Value.row x):=by
 intro r x h;unfold Value.dec at h;split at h
 ·simp only [Option.bind_eq_some_iff,Option.some.injEq] at h;obtain ⟨a0,h0,a1,h1,a2,h2,a3,h3,a4,h4,rfl⟩:=h;exact LeL.cons (aj h0) (LeL.cons (aj h1) (LeL.cons (bw h2) (LeL.cons (aF (dy .i64) h3) (LeL.cons (aF jX h4) (LeL.nil)))))
 ·cases h
theorem Value.row_ok:RowOk Value.row:=⟨fun _=>rfl,fun _=>rfl,fun _=>rfl⟩
instance:RowI Value.row:=⟨Value.row_ok⟩
instance (cs:List C) (x:Value) [h:LeIL cs [.val (.int .i64 x.Kind),.val (.int .i64 x.N),.val (.string x.S),.sl false none 1 none (x.I.map (rowI .i64)),.sl false none 1 none (x.L.map rowS)]]:LeIL cs (Value.row x):=⟨h.h⟩
def Value.decA:C->Option Value
 | .agg cs=>Value.dec cs
 | _=>none
theorem Value.decA_le {c:C} {x:Value} (h:Value.decA c=some x):Le c (.agg (Value.row x)):=by
 unfold Value.decA at h;split at h
 ·exact Le.agg (Value.dec_le _ _ h)
 ·cases h
structure Reply where
 Client_:ByteArray
 Seq:Int
 Path:(List Int)
 Err:Int
 Value_:Value
 deriving Inhabited
theorem Reply.eta (x:Reply):Reply.mk x.Client_ x.Seq x.Path x.Err x.Value_=x:=rfl
def Reply.row (x:Reply):List C:=[.val (.string x.Client_),.val (.int .i64 x.Seq),.sl false none 1 none (x.Path.map (rowI .i64)),.val (.int .i64 x.Err),.val (.int .i64 x.Value_.Kind),.val (.int .i64 x.Value_.N),.val (.string x.Value_.S),.sl false none 1 none (x.Value_.I.map (rowI .i64)),.sl false none 1 none (x.Value_.L.map rowS)]
def Reply.dec:List C->Option Reply
 | [c0,c1,c2,c3,c4,c5,c6,c7,c8]=>(decS c0).bind fun a0=>((decI .i64) c1).bind fun a1=>((decL 1 (dec1 (decI .i64))) c2).bind fun a2=>((decI .i64) c3).bind fun a3=>((decI .i64) c4).bind fun a4=>((decI .i64) c5).bind fun a5=>(decS c6).bind fun a6=>((decL 1 (dec1 (decI .i64))) c7).bind fun a7=>((decL 1 (dec1 decS)) c8).bind fun a8=>some (Reply.mk a0 a1 a2 a3 (Value.mk a4 a5 a6 a7 a8))
 | _=>none
theorem Reply.dec_row (x:Reply):Reply.dec (Reply.row x)=some x:=by
 simp only [Reply.row,Reply.dec,gu,gY,gX,jf,Option.bind_some,be (js .i64),be mG]
theorem Reply.dec_le:∀ (r:List C) (x:Reply),Reply.dec r=some x->LeL r (Reply.row x):=by
 intro r x h;unfold Reply.dec at h;split at h
 ·simp only [Option.bind_eq_some_iff,Option.some.injEq] at h;obtain ⟨a0,h0,a1,h1,a2,h2,a3,h3,a4,h4,a5,h5,a6,h6,a7,h7,a8,h8,rfl⟩:=h;exact LeL.cons (bw h0) (LeL.cons (aj h1) (LeL.cons (aF (dy .i64) h2) (LeL.cons (aj h3) (LeL.cons (aj h4) (LeL.cons (aj h5) (LeL.cons (bw h6) (LeL.cons (aF (dy .i64) h7) (LeL.cons (aF jX h8) (LeL.nil)))))))))
 ·cases h
theorem Reply.row_ok:RowOk Reply.row:=⟨fun _=>rfl,fun _=>rfl,fun _=>rfl⟩
instance:RowI Reply.row:=⟨Reply.row_ok⟩
instance (cs:List C) (x:Reply) [h:LeIL cs [.val (.string x.Client_),.val (.int .i64 x.Seq),.sl false none 1 none (x.Path.map (rowI .i64)),.val (.int .i64 x.Err),.val (.int .i64 x.Value_.Kind),.val (.int .i64 x.Value_.N),.val (.string x.Value_.S),.sl false none 1 none (x.Value_.I.map (rowI .i64)),.sl false none 1 none (x.Value_.L.map rowS)]]:LeIL cs (Reply.row x):=⟨h.h⟩
def Reply.decA:C->Option Reply
 | .agg cs=>Reply.dec cs
 | _=>none
theorem Reply.decA_le {c:C} {x:Reply} (h:Reply.decA c=some x):Le c (.agg (Reply.row x)):=by
 unfold Reply.decA at h;split at h
 ·exact Le.agg (Reply.dec_le _ _ h)
 ·cases h
structure Answer where
 Seq:Int
 Reply_:Reply
 deriving Inhabited
theorem Answer.eta (x:Answer):Answer.mk x.Seq x.Reply_=x:=rfl
def Answer.row (x:Answer):List C:=[.val (.int .i64 x.Seq),.val (.string x.Reply_.Client_),.val (.int .i64 x.Reply_.Seq),.sl false none 1 none (x.Reply_.Path.map (rowI .i64)),.val (.int .i64 x.Reply_.Err),.val (.int .i64 x.Reply_.Value_.Kind),.val (.int .i64 x.Reply_.Value_.N),.val (.string x.Reply_.Value_.S),.sl false none 1 none (x.Reply_.Value_.I.map (rowI .i64)),.sl false none 1 none (x.Reply_.Value_.L.map rowS)]
def Answer.dec:List C->Option Answer
 | [c0,c1,c2,c3,c4,c5,c6,c7,c8,c9]=>((decI .i64) c0).bind fun a0=>(decS c1).bind fun a1=>((decI .i64) c2).bind fun a2=>((decL 1 (dec1 (decI .i64))) c3).bind fun a3=>((decI .i64) c4).bind fun a4=>((decI .i64) c5).bind fun a5=>((decI .i64) c6).bind fun a6=>(decS c7).bind fun a7=>((decL 1 (dec1 (decI .i64))) c8).bind fun a8=>((decL 1 (dec1 decS)) c9).bind fun a9=>some (Answer.mk a0 (Reply.mk a1 a2 a3 a4 (Value.mk a5 a6 a7 a8 a9)))
 | _=>none
theorem Answer.dec_row (x:Answer):Answer.dec (Answer.row x)=some x:=by
 simp only [Answer.row,Answer.dec,gu,gY,gX,jf,Option.bind_some,be (js .i64),be mG]
theorem Answer.dec_le:∀ (r:List C) (x:Answer),Answer.dec r=some x->LeL r (Answer.row x):=by
 intro r x h;unfold Answer.dec at h;split at h
 ·simp only [Option.bind_eq_some_iff,Option.some.injEq] at h;obtain ⟨a0,h0,a1,h1,a2,h2,a3,h3,a4,h4,a5,h5,a6,h6,a7,h7,a8,h8,a9,h9,rfl⟩:=h;exact LeL.cons (aj h0) (LeL.cons (bw h1) (LeL.cons (aj h2) (LeL.cons (aF (dy .i64) h3) (LeL.cons (aj h4) (LeL.cons (aj h5) (LeL.cons (aj h6) (LeL.cons (bw h7) (LeL.cons (aF (dy .i64) h8) (LeL.cons (aF jX h9) (LeL.nil))))))))))
 ·cases h
theorem Answer.row_ok:RowOk Answer.row:=⟨fun _=>rfl,fun _=>rfl,fun _=>rfl⟩
instance:RowI Answer.row:=⟨Answer.row_ok⟩
instance (cs:List C) (x:Answer) [h:LeIL cs [.val (.int .i64 x.Seq),.val (.string x.Reply_.Client_),.val (.int .i64 x.Reply_.Seq),.sl false none 1 none (x.Reply_.Path.map (rowI .i64)),.val (.int .i64 x.Reply_.Err),.val (.int .i64 x.Reply_.Value_.Kind),.val (.int .i64 x.Reply_.Value_.N),.val (.string x.Reply_.Value_.S),.sl false none 1 none (x.Reply_.Value_.I.map (rowI .i64)),.sl false none 1 none (x.Reply_.Value_.L.map rowS)]]:LeIL cs (Answer.row x):=⟨h.h⟩
def Answer.decA:C->Option Answer
 | .agg cs=>Answer.dec cs
 | _=>none
theorem Answer.decA_le {c:C} {x:Answer} (h:Answer.decA c=some x):Le c (.agg (Answer.row x)):=by
 unfold Answer.decA at h;split at h
 ·exact Le.agg (Answer.dec_le _ _ h)
 ·cases h
structure Client where
 Name:ByteArray
 Low:Int
 Open:(List Int)
 Done:(List Answer)
 deriving Inhabited
theorem Client.eta (x:Client):Client.mk x.Name x.Low x.Open x.Done=x:=rfl
def Client.row (x:Client):List C:=[.val (.string x.Name),.val (.int .i64 x.Low),.sl false none 1 none (x.Open.map (rowI .i64)),.sl false none 10 none (x.Done.map Answer.row)]
def Client.dec:List C->Option Client
 | [c0,c1,c2,c3]=>(decS c0).bind fun a0=>((decI .i64) c1).bind fun a1=>((decL 1 (dec1 (decI .i64))) c2).bind fun a2=>((decL 10 Answer.dec) c3).bind fun a3=>some (Client.mk a0 a1 a2 a3)
 | _=>none
theorem Client.dec_row (x:Client):Client.dec (Client.row x)=some x:=by
 simp only [Client.row,Client.dec,gu,gY,gX,jf,Option.bind_some,be (js .i64),be Answer.dec_row]
theorem Client.dec_le:∀ (r:List C) (x:Client),Client.dec r=some x->LeL r (Client.row x):=by
 intro r x h;unfold Client.dec at h;split at h
 ·simp only [Option.bind_eq_some_iff,Option.some.injEq] at h;obtain ⟨a0,h0,a1,h1,a2,h2,a3,h3,rfl⟩:=h;exact LeL.cons (bw h0) (LeL.cons (aj h1) (LeL.cons (aF (dy .i64) h2) (LeL.cons (aF Answer.dec_le h3) (LeL.nil))))
 ·cases h
theorem Client.row_ok:RowOk Client.row:=⟨fun _=>rfl,fun _=>rfl,fun _=>rfl⟩
instance:RowI Client.row:=⟨Client.row_ok⟩
instance (cs:List C) (x:Client) [h:LeIL cs [.val (.string x.Name),.val (.int .i64 x.Low),.sl false none 1 none (x.Open.map (rowI .i64)),.sl false none 10 none (x.Done.map Answer.row)]]:LeIL cs (Client.row x):=⟨h.h⟩
def Client.rowD (x:Client):List C:=[.val (.string x.Name),.val (.int .i64 x.Low),.sl true none 1 none (x.Open.map (rowI .i64)),.sl true none 10 none (x.Done.map Answer.row)]
instance:LeRF Client.rowD Client.row:=⟨fun x=>LeL.cons (Le.refl _) (LeL.cons (Le.refl _) (LeL.cons (Le.sl (LeLL.refl _)) (LeL.cons (Le.sl (LeLL.refl _)) (LeL.nil))))⟩
theorem Client.dec_rowD (x:Client):Client.dec (Client.rowD x)=some x:=by
 simp only [Client.rowD,Client.dec,gu,gY,gX,jf,Option.bind_some,be (js .i64),be Answer.dec_row]
def Client.rowN (x:Client):List C:=[.val (.string x.Name),.val (.int .i64 x.Low),.val (.slice none 0 0),.val (.slice none 0 0)]
def Client.decN:List C->Option Client
 | [c0,c1,.val (.slice none 0 0),.val (.slice none 0 0)]=>(decS c0).bind fun a0=>((decI .i64) c1).bind fun a1=>some (Client.mk a0 a1 [] [])
 | _=>none
theorem Client.decN_le:∀ (r:List C) (x:Client),Client.decN r=some x->LeL r (Client.rowN x):=by
 intro r x h;unfold Client.decN at h;split at h
 ·simp only [Option.bind_eq_some_iff,Option.some.injEq] at h;obtain ⟨a0,ha0,a1,ha1,rfl⟩:=h;exact LeL.cons (bw ha0) (LeL.cons (aj ha1) (LeL.cons (Le.refl _) (LeL.cons (Le.refl _) (LeL.nil))))
 ·cases h
theorem Client.rowN_ok:RowOk Client.rowN:=⟨fun _=>rfl,fun _=>rfl,fun _=>rfl⟩
def Client.decA:C->Option Client
 | .agg cs=>Client.dec cs
 | _=>none
theorem Client.decA_le {c:C} {x:Client} (h:Client.decA c=some x):Le c (.agg (Client.row x)):=by
 unfold Client.decA at h;split at h
 ·exact Le.agg (Client.dec_le _ _ h)
 ·cases h
structure aa where
 Kind:Int
 Client_:Int
 Seq:Int
 Value_:Int
 deriving Inhabited
theorem aa.eta (x:aa):aa.mk x.Kind x.Client_ x.Seq x.Value_=x:=rfl
def aa.row (x:aa):List C:=[.val (.int .u8 x.Kind),.val (.int .u8 x.Client_),.val (.int .u8 x.Seq),.val (.int .i64 x.Value_)]
def aa.dec:List C->Option aa
 | [c0,c1,c2,c3]=>((decI .u8) c0).bind fun a0=>((decI .u8) c1).bind fun a1=>((decI .u8) c2).bind fun a2=>((decI .i64) c3).bind fun a3=>some (aa.mk a0 a1 a2 a3)
 | _=>none
theorem aa.dec_row (x:aa):aa.dec (aa.row x)=some x:=by
 simp only [aa.row,aa.dec,gu,gY,gX,jf,Option.bind_some]
theorem aa.dec_le:∀ (r:List C) (x:aa),aa.dec r=some x->LeL r (aa.row x):=by
 intro r x h;unfold aa.dec at h;split at h
 ·simp only [Option.bind_eq_some_iff,Option.some.injEq] at h;obtain ⟨a0,h0,a1,h1,a2,h2,a3,h3,rfl⟩:=h;exact LeL.cons (aj h0) (LeL.cons (aj h1) (LeL.cons (aj h2) (LeL.cons (aj h3) (LeL.nil))))
 ·cases h
theorem aa.row_ok:RowOk aa.row:=⟨fun _=>rfl,fun _=>rfl,fun _=>rfl⟩
instance:RowI aa.row:=⟨aa.row_ok⟩
instance (cs:List C) (x:aa) [h:LeIL cs [.val (.int .u8 x.Kind),.val (.int .u8 x.Client_),.val (.int .u8 x.Seq),.val (.int .i64 x.Value_)]]:LeIL cs (aa.row x):=⟨h.h⟩
theorem aa.row_pure:∀ x,∀ c∈aa.row x,PureC c:=fun x=>aQ (PureC.val _) (aQ (PureC.val _) (aQ (PureC.val _) (aQ (PureC.val _) (kO))))
instance:PureRI aa.row:=⟨aa.row_pure⟩
def aa.decA:C->Option aa
 | .agg cs=>aa.dec cs
 | _=>none
theorem aa.decA_le {c:C} {x:aa} (h:aa.decA c=some x):Le c (.agg (aa.row x)):=by
 unfold aa.decA at h;split at h
 ·exact Le.agg (aa.dec_le _ _ h)
 ·cases h
end Go.Proofs.Yteldkhmcgloafaa
