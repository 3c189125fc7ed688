/- The statement OnceBoundSaid is proved: for every input the law OnceBound returns true,and what it was given reads as before. No condition. -/
import Derived.Test.YteldkhmcgloafaaRows
import Derived.Test.YteldkhmcgloafaaWA
import Derived.Test.YteldkhmcgloafaaLA
import Derived.WalkKit
import Derived.ProofKit
import Derived.OpenShut
import Derived.SizedLaws
set_option linter.unusedSimpArgs false
set_option linter.unusedVariables false
set_option maxRecDepth 100000
namespace Go.Proofs.Yteldkhmcgloafaa
open Go Go.Proofs Go.Abs Go.ChangeShapes Go.WideShapes Go.ChangeAt Go.RowKit
open Go.ChangeMaps (open_string shut_string)
theorem BV:Try.prog.cellsOf 51=1:=by kernel_rfl
theorem cells5:Try.prog.cellsOf 5=1:=by kernel_rfl
theorem plain:(y0:Int)->(Lit.int .u16 y0).wf=true->(y1:Int)->(Lit.int .u8 y1).wf=true->∃ N,fH N y0 y1=some true:=fun f hf a ha=>⟨1000,rW f a (show 0<=f/\f<=65535 from (by simpa [Lit.wf,IntKind.min,IntKind.max,IntKind.signed,IntKind.bits] using hf)).1 (show 0<=f/\f<=65535 from (by simpa [Lit.wf,IntKind.min,IntKind.max,IntKind.signed,IntKind.bits] using hf)).2 (show 0<=a/\a<=255 from (by simpa [Lit.wf,IntKind.min,IntKind.max,IntKind.signed,IntKind.bits] using ha)).1 (show 0<=a/\a<=255 from (by simpa [Lit.wf,IntKind.min,IntKind.max,IntKind.signed,IntKind.bits] using ha)).2⟩
theorem own:ownKnob Try.prog.godebug=none:=by kernel_rfl
theorem Aj:laidOutB Try.prog=true:=by kernel_rfl
theorem zY:((Try.f5.params.toList).all fun t=>Try.prog.readableRec t && decide (t < Try.prog.types.size))=true:=by kernel_rfl
theorem zd (H:Type) (enc:TypeId × Go.Value->H) (W:World) (base:Nat) (args:Array Go.Value) (ds gs:List (DataW H)) (before:List MemPlace)
  (hval:∀ (j:Nat) t v,Try.f5.params[j]?=some t->args[j]?=some v->Go.Value.okWide Try.prog W .any base t v)
  (hW:DataW.Whole enc Try.prog Try.f5.params.toList Rows.onceBoundSpec.vars false W args.toList ds gs before)
  (hZ:(DataW.weightsEach Try.prog (Try.f5.params.toList++Rows.onceBoundSpec.plain.varTypes Try.prog) (ds++gs)).all (·<=reachBytes)=true) :
  Calls Try.prog 5 args W fun e W'=>∃ v,e=.returned v/\Rows.onceBoundSpec.post enc Try.prog Try.f5 false true false false W args v W':=by
 have hW0:=hW;obtain ⟨p,q,hA0,hV,rfl,hfz,hnd⟩:=hW;have hA:DataW.TrodAll enc Try.prog W 0 (fun _=>true) true Try.f5.params.toList args.toList ds p:=hA0;have hZ':=hZ;rw [Try.params5] at hA hval hZ';obtain ⟨v0,vs0,d0,ds0,p0,q0,hargs,rfl,rfl,h0,t0⟩:=trodAll_cons hA;obtain ⟨v1,vs1,d1,ds1,p1,q1,hvs1,rfl,rfl,h1,t1⟩:=trodAll_cons t0;obtain ⟨hn1,rfl,rfl⟩:=trodAll_nil t1;obtain ⟨rfl,rfl⟩:=trodVars_none hV;have hargs':args=#[v0,v1]:=by
  have:args.toList=[v0,v1]:=by rw [hargs,hvs1,hn1]
  rw [<-Array.toArray_toList (xs:=args),this]
 subst hargs';obtain ⟨fu0,k0⟩:=h0;obtain ⟨y0,w0,r0⟩:=(tl Try.underlying51) _ _ _ _ _ _ _ _ _ k0 (sz_arg hZ' (j:=0) rfl rfl);obtain ⟨n0,hv0⟩:=okWide_int Try.underlying51 (hval 0 51 v0 rfl rfl);subst hv0;have g0:=vP rfl r0;obtain ⟨fu1,k1⟩:=h1;obtain ⟨y1,w1,r1⟩:=(tl Try.underlying5) _ _ _ _ _ _ _ _ _ k1 (sz_arg hZ' (j:=1) rfl rfl);obtain ⟨n1,hv1⟩:=okWide_int Try.underlying5 (hval 1 5 v1 rfl rfl);subst hv1;have g1:=vP rfl r1;obtain ⟨N,hN⟩:=plain y0 w0 y1 w1;refine (u7 (us:=[_,_]) (⟨Try.func5,rfl,by decide,by kernel_rfl⟩:FunOk Try.prog 5 _ _) (l8 N y0 y1 true hN) rfl (ta g0 (ta g1 (zQ)))).mono fun e W' he=>?_;obtain ⟨he,hfr⟩:=he;subst he;refine ⟨_,rfl,zr (tb:=4) Aj ?_ (by kernel_rfl) Try.underlying4 rfl rfl hW0 hfr⟩;intro t ht;have:=List.all_eq_true.1 zY t ht;rw [Bool.and_eq_true,decide_eq_true_eq] at this;exact this

set_option maxRecDepth 100000 in
theorem lifted (os:Os) (started:os.Started) (H:Type) (enc:TypeId × Go.Value->H) :
  ReturnsInHanded {} Try.checked os 5 .any (Rows.onceBoundSpec.pre6 enc Try.prog Try.f5 Rows.onceBoundRow.domain false) (Rows.onceBoundSpec.post enc Try.prog Try.f5 false true false false):=by
 refine returnsInHanded_of_change_sized (C:=Try.checked) own started (by kernel_rfl) Try.func5
  (ChangeSpec.witness6 (enc:=enc) (C:=Try.checked) false ⟨#[],#[.int .u16 0,.int .u8 0],[]⟩ 12 (by kernel_rfl) (by kernel_rfl) (by kernel_rfl) (by kernel_rfl)) ?_
 intro W base args ds gs before hval hW _ hz _;exact zd H enc W base args ds gs before hval hW hz

theorem onceBound_holds:Rows.OnceBoundSaid:=
 OpenClaim.holds_of_wide 5 Try.f5 rfl rfl rfl rfl rfl rfl rfl ⟨rfl,rfl,rfl,rfl,rfl⟩ rfl rfl rfl rfl rfl (by kernel_rfl) Try.func5 (by kernel_rfl)
  (of_decide_eq_true (by kernel_rfl)) (by unfold Func.isWrapper; first|(rw [if_pos (by decide +kernel)]; kernel_rfl)|(rw [if_neg (by decide +kernel)]; exact ⟨rfl,rfl⟩))
  (fun os started H enc _=>lifted os started H enc)
end Go.Proofs.Yteldkhmcgloafaa
