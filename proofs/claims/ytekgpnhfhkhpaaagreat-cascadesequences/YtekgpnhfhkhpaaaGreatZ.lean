/- The statement CascadeSequencesSaid is proved: for every input the law CascadeSequences returns true,and what it was given reads as before. No condition. -/
import Derived.Test.YtekgpnhfhkhpaaaGreatRows
import Derived.Test.YtekgpnhfhkhpaaaGreatWB
import Derived.Test.YtekgpnhfhkhpaaaGreatLA
import Derived.WalkKit
import Derived.ProofKit
import Derived.OpenShut
import Derived.SizedLaws
set_option linter.unusedSimpArgs false
set_option linter.unusedVariables false
set_option maxRecDepth 100000
namespace Go.Proofs.YtekgpnhfhkhpaaaGreat
open Go Go.Proofs Go.Abs Go.ChangeShapes Go.WideShapes Go.ChangeAt Go.RowKit
open Go.ChangeMaps (open_string shut_string)
def aj.wf (x:aj):Prop:=(Lit.int .u8 x.Kind).wf=true/\(Lit.int .u8 x.Txn).wf=true/\(Lit.int .u8 x.Actor).wf=true/\True
theorem Cp:Tryz.prog.cellsOf 50=3:=by kernel_rfl
theorem cells5:Tryz.prog.cellsOf 5=1:=by kernel_rfl
theorem Fu:Opens Tryz.prog 50 aj.row aj.wf:=by
 intro H enc w base spare held fuel cs x h hz;obtain ⟨xs,n,rfl,rfl,hl,hx,hf⟩:=DataW.trod_struct Tryz.underlying50 h;rw [Cp] at hl;have e0:DataW.trod enc Tryz.prog w base spare held n 5 ((cs.drop 0).take (Tryz.prog.cellsOf 5))=xs[0]?:=hf 0 _ rfl;obtain ⟨x0,h0⟩:∃ q,xs[0]?=some q:=⟨xs[0]'(by rw [hx]; decide),List.getElem?_eq_getElem _⟩;rw [h0,cells5] at e0;obtain ⟨y0,w0,r0⟩:=(sG Tryz.underlying5) H enc w base spare held n _ x0 e0 (yp Tryz.underlying50 hz (i:=0) rfl (by rw [List.getElem?_map,h0]; rfl));have r0':RowRel w ((cs.drop 0).take 1) ((rowI .u8) y0):=r0;have e1:DataW.trod enc Tryz.prog w base spare held n 5 ((cs.drop 1).take (Tryz.prog.cellsOf 5))=xs[1]?:=hf 1 _ rfl;obtain ⟨x1,h1⟩:∃ q,xs[1]?=some q:=⟨xs[1]'(by rw [hx]; decide),List.getElem?_eq_getElem _⟩;rw [h1,cells5] at e1;obtain ⟨y1,w1,r1⟩:=(sG Tryz.underlying5) H enc w base spare held n _ x1 e1 (yp Tryz.underlying50 hz (i:=1) rfl (by rw [List.getElem?_map,h1]; rfl));have r1':RowRel w ((cs.drop 1).take 1) ((rowI .u8) y1):=r1;have e2:DataW.trod enc Tryz.prog w base spare held n 5 ((cs.drop 2).take (Tryz.prog.cellsOf 5))=xs[2]?:=hf 2 _ rfl;obtain ⟨x2,h2⟩:∃ q,xs[2]?=some q:=⟨xs[2]'(by rw [hx]; decide),List.getElem?_eq_getElem _⟩;rw [h2,cells5] at e2;obtain ⟨y2,w2,r2⟩:=(sG Tryz.underlying5) H enc w base spare held n _ x2 e2 (yp Tryz.underlying50 hz (i:=2) rfl (by rw [List.getElem?_map,h2]; rfl));have r2':RowRel w ((cs.drop 2).take 1) ((rowI .u8) y2):=r2;exact ⟨⟨y0,y1,y2⟩,⟨w0,w1,w2,trivial⟩,uB (o:=0) (s:=1) r0' (uB (o:=1) (s:=1) r1' (uB (o:=2) (s:=1) r2' (CZ (o:=3) (by omega))))⟩
theorem byof50:Tryz.prog.bytesOf 50=3:=by kernel_rfl
theorem Hk:Tryz.prog.cellsOf 30=1:=by kernel_rfl
theorem plain:(y0:(List aj))->(y0.length * 3<=140737488351232/\∀ z0∈y0,aj.wf z0)->(y1:Int)->(Lit.int .u8 y1).wf=true->∃ N,eX N y0 y1=some true:=fun l _ x hx=>⟨200000,tk l x (by simpa [Lit.wf,IntKind.min,IntKind.max,IntKind.signed,IntKind.bits] using hx:0<=x/\x<=255).1 (by simpa [Lit.wf,IntKind.min,IntKind.max,IntKind.signed,IntKind.bits] using hx:0<=x/\x<=255).2⟩
theorem own:ownKnob Tryz.prog.godebug=none:=by kernel_rfl
theorem Fx:laidOutB Tryz.prog=true:=by kernel_rfl
theorem E0:((Tryz.f4.params.toList).all fun t=>Tryz.prog.readableRec t && decide (t < Tryz.prog.types.size))=true:=by kernel_rfl
theorem Fp (H:Type) (enc:TypeId × Go.Value->H) (W:World) (base:Nat) (args:Array Go.Value) (ds gs:List (DataW H)) (before:List MemPlace)
  (hval:∀ (j:Nat) t v,Tryz.f4.params[j]?=some t->args[j]?=some v->Go.Value.okWide Tryz.prog W .any base t v)
  (hW:DataW.Whole enc Tryz.prog Tryz.f4.params.toList Rows.cascadeSequencesSpec.vars false W args.toList ds gs before)
  (hZ:(DataW.weightsEach Tryz.prog (Tryz.f4.params.toList++Rows.cascadeSequencesSpec.plain.varTypes Tryz.prog) (ds++gs)).all (·<=reachBytes)=true) :
  Calls Tryz.prog 4 args W fun e W'=>∃ v,e=.returned v/\Rows.cascadeSequencesSpec.post enc Tryz.prog Tryz.f4 false true false false W args v W':=by
 have hW0:=hW;obtain ⟨p,q,hA0,hV,rfl,hfz,hnd⟩:=hW;have hA:DataW.TrodAll enc Tryz.prog W 0 (fun _=>true) true Tryz.f4.params.toList args.toList ds p:=hA0;have hZ':=hZ;rw [Tryz.params4] at hA hval hZ';obtain ⟨v0,vs0,d0,ds0,p0,q0,hargs,rfl,rfl,h0,t0⟩:=trodAll_cons hA;obtain ⟨v1,vs1,d1,ds1,p1,q1,hvs1,rfl,rfl,h1,t1⟩:=trodAll_cons t0;obtain ⟨hn1,rfl,rfl⟩:=trodAll_nil t1;obtain ⟨rfl,rfl⟩:=trodVars_none hV;have hargs':args=#[v0,v1]:=by
  have:args.toList=[v0,v1]:=by rw [hargs,hvs1,hn1]
  rw [<-Array.toArray_toList (xs:=args),this]
 subst hargs';obtain ⟨fu0,k0⟩:=h0;obtain ⟨y0,w0,r0⟩:=(Cb Tryz.underlying30 Cp (by decide) byof50 Fu) _ _ _ _ _ _ _ _ _ k0 (sz_arg hZ' (j:=0) rfl rfl);obtain ⟨a0,len0,cap0,hv0⟩:=okWide_slice Tryz.underlying30 (hval 0 30 v0 rfl rfl);subst hv0;have g0:=Cs rfl r0;obtain ⟨fu1,k1⟩:=h1;obtain ⟨y1,w1,r1⟩:=(sG Tryz.underlying5) _ _ _ _ _ _ _ _ _ k1 (sz_arg hZ' (j:=1) rfl rfl);obtain ⟨n1,hv1⟩:=okWide_int Tryz.underlying5 (hval 1 5 v1 rfl rfl);subst hv1;have g1:=Cs rfl r1;obtain ⟨N,hN⟩:=plain y0 w0 y1 w1;refine (AV (us:=[_,_]) (⟨Tryz.func4,rfl,by decide,by kernel_rfl⟩:FunOk Tryz.prog 4 _ _) (og N y0 y1 true hN) rfl (Av g0 (Av g1 (EP)))).mono fun e W' he=>?_;obtain ⟨he,hfr⟩:=he;subst he;refine ⟨_,rfl,Fc (tb:=4) Fx ?_ (by kernel_rfl) Tryz.underlying4 rfl rfl hW0 hfr⟩;intro t ht;have:=List.all_eq_true.1 E0 t ht;rw [Bool.and_eq_true,decide_eq_true_eq] at this;exact this

set_option maxRecDepth 100000 in
theorem lifted (os:Os) (started:os.Started) (H:Type) (enc:TypeId × Go.Value->H) :
  ReturnsInHanded {} Tryz.checked os 4 .any (Rows.cascadeSequencesSpec.pre6 enc Tryz.prog Tryz.f4 Rows.cascadeSequencesRow.domain false) (Rows.cascadeSequencesSpec.post enc Tryz.prog Tryz.f4 false true false false):=by
 refine returnsInHanded_of_change_sized (C:=Tryz.checked) own started (by kernel_rfl) Tryz.func4
  (ChangeSpec.witness6 (enc:=enc) (C:=Tryz.checked) false ⟨#[],#[.slice none 0 0,.int .u8 0],[]⟩ 12 (by kernel_rfl) (by kernel_rfl) (by kernel_rfl) (by kernel_rfl)) ?_
 intro W base args ds gs before hval hW _ hz _;exact Fp H enc W base args ds gs before hval hW hz

theorem cascadeSequences_holds:Rows.CascadeSequencesSaid:=
 OpenClaim.holds_of_wide 4 Tryz.f4 rfl rfl rfl rfl rfl rfl rfl ⟨rfl,rfl,rfl,rfl,rfl⟩ rfl rfl rfl rfl rfl (by kernel_rfl) Tryz.func4 (by kernel_rfl)
  (of_decide_eq_true (by kernel_rfl)) (by unfold Func.isWrapper; first|(rw [if_pos (by decide +kernel)]; kernel_rfl)|(rw [if_neg (by decide +kernel)]; exact ⟨rfl,rfl⟩))
  (fun os started H enc _=>lifted os started H enc)
end Go.Proofs.YtekgpnhfhkhpaaaGreat
