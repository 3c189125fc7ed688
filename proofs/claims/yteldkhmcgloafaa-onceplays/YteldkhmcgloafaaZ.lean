/- The statement OncePlaysSaid is proved: for every input the law OncePlays returns true,and what it was given reads as before. No condition. -/
import Derived.Test.YteldkhmcgloafaaRows
import Derived.Test.YteldkhmcgloafaaWA
import Derived.Test.YteldkhmcgloafaaLA
import Derived.WalkKit
import Derived.ProofKit
import Derived.OpenShut
import Derived.SizedLaws
set_option linter.unusedSimpArgs false
set_option linter.unusedVariables false
set_option maxRecDepth 100000
namespace Go.Proofs.Yteldkhmcgloafaa
open Go Go.Proofs Go.Abs Go.ChangeShapes Go.WideShapes Go.ChangeAt Go.RowKit
open Go.ChangeMaps (open_string shut_string)
def aa.wf (x:aa):Prop:=(Lit.int .u8 x.Kind).wf=true/\(Lit.int .u8 x.Client_).wf=true/\(Lit.int .u8 x.Seq).wf=true/\(Lit.int .i64 x.Value_).wf=true/\True
theorem yO:Try.prog.cellsOf 48=4:=by kernel_rfl
theorem cells5:Try.prog.cellsOf 5=1:=by kernel_rfl
theorem cells3:Try.prog.cellsOf 3=1:=by kernel_rfl
theorem Bh:Opens Try.prog 48 aa.row aa.wf:=by
 intro H enc w base spare held fuel cs x h hz;obtain ⟨xs,n,rfl,rfl,hl,hx,hf⟩:=DataW.trod_struct Try.underlying48 h;rw [yO] at hl;have e0:DataW.trod enc Try.prog w base spare held n 5 ((cs.drop 0).take (Try.prog.cellsOf 5))=xs[0]?:=hf 0 _ rfl;obtain ⟨x0,h0⟩:∃ q,xs[0]?=some q:=⟨xs[0]'(by rw [hx]; decide),List.getElem?_eq_getElem _⟩;rw [h0,cells5] at e0;obtain ⟨y0,w0,r0⟩:=(pd Try.underlying5) H enc w base spare held n _ x0 e0 (qA Try.underlying48 hz (i:=0) rfl (by rw [List.getElem?_map,h0]; rfl));have r0':RowRel w ((cs.drop 0).take 1) ((rowI .u8) y0):=r0;have e1:DataW.trod enc Try.prog w base spare held n 5 ((cs.drop 1).take (Try.prog.cellsOf 5))=xs[1]?:=hf 1 _ rfl;obtain ⟨x1,h1⟩:∃ q,xs[1]?=some q:=⟨xs[1]'(by rw [hx]; decide),List.getElem?_eq_getElem _⟩;rw [h1,cells5] at e1;obtain ⟨y1,w1,r1⟩:=(pd Try.underlying5) H enc w base spare held n _ x1 e1 (qA Try.underlying48 hz (i:=1) rfl (by rw [List.getElem?_map,h1]; rfl));have r1':RowRel w ((cs.drop 1).take 1) ((rowI .u8) y1):=r1;have e2:DataW.trod enc Try.prog w base spare held n 5 ((cs.drop 2).take (Try.prog.cellsOf 5))=xs[2]?:=hf 2 _ rfl;obtain ⟨x2,h2⟩:∃ q,xs[2]?=some q:=⟨xs[2]'(by rw [hx]; decide),List.getElem?_eq_getElem _⟩;rw [h2,cells5] at e2;obtain ⟨y2,w2,r2⟩:=(pd Try.underlying5) H enc w base spare held n _ x2 e2 (qA Try.underlying48 hz (i:=2) rfl (by rw [List.getElem?_map,h2]; rfl));have r2':RowRel w ((cs.drop 2).take 1) ((rowI .u8) y2):=r2;have e3:DataW.trod enc Try.prog w base spare held n 3 ((cs.drop 3).take (Try.prog.cellsOf 3))=xs[3]?:=hf 3 _ rfl;obtain ⟨x3,h3⟩:∃ q,xs[3]?=some q:=⟨xs[3]'(by rw [hx]; decide),List.getElem?_eq_getElem _⟩;rw [h3,cells3] at e3;obtain ⟨y3,w3,r3⟩:=(pd Try.underlying3) H enc w base spare held n _ x3 e3 (qA Try.underlying48 hz (i:=3) rfl (by rw [List.getElem?_map,h3]; rfl));have r3':RowRel w ((cs.drop 3).take 1) ((rowI .i64) y3):=r3;exact ⟨⟨y0,y1,y2,y3⟩,⟨w0,w1,w2,w3,trivial⟩,m7 (o:=0) (s:=1) r0' (m7 (o:=1) (s:=1) r1' (m7 (o:=2) (s:=1) r2' (m7 (o:=3) (s:=1) r3' (zO (o:=4) (by omega)))))⟩
theorem byof48:Try.prog.bytesOf 48=16:=by kernel_rfl
theorem D8:Try.prog.cellsOf 42=1:=by kernel_rfl
theorem plain:(y0:(List aa))->(y0.length * 16<=140737488351232/\∀ z0∈y0,aa.wf z0)->∃ N,gl N y0=some true:=fun ls hw=>⟨1000,tI ls (fun x hx=>by have q:=hw.2 x hx; simp [aa.wf,Lit.wf,IntKind.min,IntKind.max,IntKind.signed,IntKind.bits] at q; omega)⟩
theorem own:ownKnob Try.prog.godebug=none:=by kernel_rfl
theorem Co:laidOutB Try.prog=true:=by kernel_rfl
theorem Cb:((Try.f4.params.toList).all fun t=>Try.prog.readableRec t && decide (t < Try.prog.types.size))=true:=by kernel_rfl
theorem Cc (H:Type) (enc:TypeId × Go.Value->H) (W:World) (base:Nat) (args:Array Go.Value) (ds gs:List (DataW H)) (before:List MemPlace)
  (hval:∀ (j:Nat) t v,Try.f4.params[j]?=some t->args[j]?=some v->Go.Value.okWide Try.prog W .any base t v)
  (hW:DataW.Whole enc Try.prog Try.f4.params.toList Rows.oncePlaysSpec.vars false W args.toList ds gs before)
  (hZ:(DataW.weightsEach Try.prog (Try.f4.params.toList++Rows.oncePlaysSpec.plain.varTypes Try.prog) (ds++gs)).all (·<=reachBytes)=true) :
  Calls Try.prog 4 args W fun e W'=>∃ v,e=.returned v/\Rows.oncePlaysSpec.post enc Try.prog Try.f4 false true false false W args v W':=by
 have hW0:=hW;obtain ⟨p,q,hA0,hV,rfl,hfz,hnd⟩:=hW;have hA:DataW.TrodAll enc Try.prog W 0 (fun _=>true) true Try.f4.params.toList args.toList ds p:=hA0;have hZ':=hZ;rw [Try.params4] at hA hval hZ';obtain ⟨v0,vs0,d0,ds0,p0,q0,hargs,rfl,rfl,h0,t0⟩:=trodAll_cons hA;obtain ⟨hn1,rfl,rfl⟩:=trodAll_nil t0;obtain ⟨rfl,rfl⟩:=trodVars_none hV;have hargs':args=#[v0]:=by
  have:args.toList=[v0]:=by rw [hargs,hn1]
  rw [<-Array.toArray_toList (xs:=args),this]
 subst hargs';obtain ⟨fu0,k0⟩:=h0;obtain ⟨y0,w0,r0⟩:=(w9 Try.underlying42 yO (by decide) byof48 Bh) _ _ _ _ _ _ _ _ _ k0 (sz_arg hZ' (j:=0) rfl rfl);obtain ⟨a0,len0,cap0,hv0⟩:=okWide_slice Try.underlying42 (hval 0 42 v0 rfl rfl);subst hv0;have g0:=Da rfl r0;obtain ⟨N,hN⟩:=plain y0 w0;refine (wA (us:=[_]) (⟨Try.func4,rfl,by decide,by kernel_rfl⟩:FunOk Try.prog 4 _ _) (m6 N y0 true hN) rfl (Aw g0 (B6))).mono fun e W' he=>?_;obtain ⟨he,hfr⟩:=he;subst he;refine ⟨_,rfl,Bm (tb:=4) Co ?_ (by kernel_rfl) Try.underlying4 rfl rfl hW0 hfr⟩;intro t ht;have:=List.all_eq_true.1 Cb t ht;rw [Bool.and_eq_true,decide_eq_true_eq] at this;exact this

set_option maxRecDepth 100000 in
theorem lifted (os:Os) (started:os.Started) (H:Type) (enc:TypeId × Go.Value->H) :
  ReturnsInHanded {} Try.checked os 4 .any (Rows.oncePlaysSpec.pre6 enc Try.prog Try.f4 Rows.oncePlaysRow.domain false) (Rows.oncePlaysSpec.post enc Try.prog Try.f4 false true false false):=by
 refine returnsInHanded_of_change_sized (C:=Try.checked) own started (by kernel_rfl) Try.func4
  (ChangeSpec.witness6 (enc:=enc) (C:=Try.checked) false ⟨#[],#[.slice none 0 0],[]⟩ 12 (by kernel_rfl) (by kernel_rfl) (by kernel_rfl) (by kernel_rfl)) ?_
 intro W base args ds gs before hval hW _ hz _;exact Cc H enc W base args ds gs before hval hW hz

theorem oncePlays_holds:Rows.OncePlaysSaid:=
 OpenClaim.holds_of_wide 4 Try.f4 rfl rfl rfl rfl rfl rfl rfl ⟨rfl,rfl,rfl,rfl,rfl⟩ rfl rfl rfl rfl rfl (by kernel_rfl) Try.func4 (by kernel_rfl)
  (of_decide_eq_true (by kernel_rfl)) (by unfold Func.isWrapper; first|(rw [if_pos (by decide +kernel)]; kernel_rfl)|(rw [if_neg (by decide +kernel)]; exact ⟨rfl,rfl⟩))
  (fun os started H enc _=>lifted os started H enc)
end Go.Proofs.Yteldkhmcgloafaa
