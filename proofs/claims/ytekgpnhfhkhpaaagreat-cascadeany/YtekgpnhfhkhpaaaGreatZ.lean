/- The statement CascadeAnySaid is proved: for every input the law CascadeAny returns true,and what it was given reads as before. No condition. -/
import Derived.Test.YtekgpnhfhkhpaaaGreatRows
import Derived.Test.YtekgpnhfhkhpaaaGreatWB
import Derived.Test.YtekgpnhfhkhpaaaGreatLA
import Derived.WalkKit
import Derived.ProofKit
import Derived.OpenShut
import Derived.SizedLaws
set_option linter.unusedSimpArgs false
set_option linter.unusedVariables false
set_option maxRecDepth 100000
namespace Go.Proofs.YtekgpnhfhkhpaaaGreat
open Go Go.Proofs Go.Abs Go.ChangeShapes Go.WideShapes Go.ChangeAt Go.RowKit
open Go.ChangeMaps (open_string shut_string)
def ah.wf (x:ah):Prop:=(Lit.int .i64 x.Kind).wf=true/\(Lit.int .i64 x.Txn).wf=true/\(Lit.int .i64 x.Actor).wf=true/\True
theorem Cq:Tryz.prog.cellsOf 33=3:=by kernel_rfl
theorem cells3:Tryz.prog.cellsOf 3=1:=by kernel_rfl
theorem Fi:Opens Tryz.prog 33 ah.row ah.wf:=by
 intro H enc w base spare held fuel cs x h hz;obtain ⟨xs,n,rfl,rfl,hl,hx,hf⟩:=DataW.trod_struct Tryz.underlying33 h;rw [Cq] at hl;have e0:DataW.trod enc Tryz.prog w base spare held n 3 ((cs.drop 0).take (Tryz.prog.cellsOf 3))=xs[0]?:=hf 0 _ rfl;obtain ⟨x0,h0⟩:∃ q,xs[0]?=some q:=⟨xs[0]'(by rw [hx]; decide),List.getElem?_eq_getElem _⟩;rw [h0,cells3] at e0;obtain ⟨y0,w0,r0⟩:=(ms Tryz.underlying3) H enc w base spare held n _ x0 e0 (yg Tryz.underlying33 hz (i:=0) rfl (by rw [List.getElem?_map,h0]; rfl));have r0':RowRel w ((cs.drop 0).take 1) ((rowI .i64) y0):=r0;have e1:DataW.trod enc Tryz.prog w base spare held n 3 ((cs.drop 1).take (Tryz.prog.cellsOf 3))=xs[1]?:=hf 1 _ rfl;obtain ⟨x1,h1⟩:∃ q,xs[1]?=some q:=⟨xs[1]'(by rw [hx]; decide),List.getElem?_eq_getElem _⟩;rw [h1,cells3] at e1;obtain ⟨y1,w1,r1⟩:=(ms Tryz.underlying3) H enc w base spare held n _ x1 e1 (yg Tryz.underlying33 hz (i:=1) rfl (by rw [List.getElem?_map,h1]; rfl));have r1':RowRel w ((cs.drop 1).take 1) ((rowI .i64) y1):=r1;have e2:DataW.trod enc Tryz.prog w base spare held n 3 ((cs.drop 2).take (Tryz.prog.cellsOf 3))=xs[2]?:=hf 2 _ rfl;obtain ⟨x2,h2⟩:∃ q,xs[2]?=some q:=⟨xs[2]'(by rw [hx]; decide),List.getElem?_eq_getElem _⟩;rw [h2,cells3] at e2;obtain ⟨y2,w2,r2⟩:=(ms Tryz.underlying3) H enc w base spare held n _ x2 e2 (yg Tryz.underlying33 hz (i:=2) rfl (by rw [List.getElem?_map,h2]; rfl));have r2':RowRel w ((cs.drop 2).take 1) ((rowI .i64) y2):=r2;exact ⟨⟨y0,y1,y2⟩,⟨w0,w1,w2,trivial⟩,pO (o:=0) (s:=1) r0' (pO (o:=1) (s:=1) r1' (pO (o:=2) (s:=1) r2' (y8 (o:=3) (by omega))))⟩
theorem byof33:Tryz.prog.bytesOf 33=24:=by kernel_rfl
def ae.wf (x:ae):Prop:=(Lit.int .i64 x.e0).wf=true/\(Lit.int .i64 x.e1).wf=true/\True
theorem Ck:Tryz.prog.cellsOf 36=2:=by kernel_rfl
theorem E5:Opens Tryz.prog 36 ae.row ae.wf:=by
 intro H enc w base spare held fuel cs x h hz;obtain ⟨xs,n,rfl,rfl,hl,hx,hf⟩:=DataW.trod_array Tryz.underlying36 h;rw [Ck] at hl;have e0:DataW.trod enc Tryz.prog w base spare held n 3 ((cs.drop (0 * Tryz.prog.cellsOf 3)).take (Tryz.prog.cellsOf 3))=xs[0]?:=hf 0 (by decide);obtain ⟨x0,h0⟩:∃ q,xs[0]?=some q:=⟨xs[0]'(by rw [hx]; decide),List.getElem?_eq_getElem _⟩;rw [h0,cells3] at e0;obtain ⟨y0,w0,r0⟩:=(ms Tryz.underlying3) H enc w base spare held n _ x0 e0 (Cj Tryz.underlying36 hz (i:=0) (by rw [List.getElem?_map,h0]; rfl));have r0':RowRel w ((cs.drop 0).take 1) ((rowI .i64) y0):=r0;have e1:DataW.trod enc Tryz.prog w base spare held n 3 ((cs.drop (1 * Tryz.prog.cellsOf 3)).take (Tryz.prog.cellsOf 3))=xs[1]?:=hf 1 (by decide);obtain ⟨x1,h1⟩:∃ q,xs[1]?=some q:=⟨xs[1]'(by rw [hx]; decide),List.getElem?_eq_getElem _⟩;rw [h1,cells3] at e1;obtain ⟨y1,w1,r1⟩:=(ms Tryz.underlying3) H enc w base spare held n _ x1 e1 (Cj Tryz.underlying36 hz (i:=1) (by rw [List.getElem?_map,h1]; rfl));have r1':RowRel w ((cs.drop 1).take 1) ((rowI .i64) y1):=r1;exact ⟨⟨y0,y1⟩,⟨w0,w1,trivial⟩,pO (o:=0) (s:=1) r0' (pO (o:=1) (s:=1) r1' (y8 (o:=2) (by omega)))⟩
theorem byof36:Tryz.prog.bytesOf 36=16:=by kernel_rfl
theorem byof3:Tryz.prog.bytesOf 3=8:=by kernel_rfl
theorem Hm:Tryz.prog.cellsOf 22=1:=by kernel_rfl
theorem Hh:Tryz.prog.cellsOf 23=1:=by kernel_rfl
theorem G9:Tryz.prog.cellsOf 24=1:=by kernel_rfl
theorem plain:(y0:(List ah))->(y0.length * 24<=140737488351232/\∀ z0∈y0,ah.wf z0)->(y1:Int)->(Lit.int .i64 y1).wf=true->(y2:Int)->(Lit.int .i64 y2).wf=true->(y3:(List ae))->(y3.length * 16<=140737488351232/\∀ z0∈y3,ae.wf z0)->(y4:(List Int))->(y4.length * 8<=140737488351232/\∀ z0∈y4,(Lit.int .i64 z0).wf=true)->∃ N,jt N y0 y1 y2 y3 y4=some true:=fun h _ t _ a _ d _ x _=>⟨200000,yp h t a d x⟩
theorem own:ownKnob Tryz.prog.godebug=none:=by kernel_rfl
theorem FA:laidOutB Tryz.prog=true:=by kernel_rfl
theorem Fb:((Tryz.f3.params.toList).all fun t=>Tryz.prog.readableRec t && decide (t < Tryz.prog.types.size))=true:=by kernel_rfl
theorem Fg (H:Type) (enc:TypeId × Go.Value->H) (W:World) (base:Nat) (args:Array Go.Value) (ds gs:List (DataW H)) (before:List MemPlace)
  (hval:∀ (j:Nat) t v,Tryz.f3.params[j]?=some t->args[j]?=some v->Go.Value.okWide Tryz.prog W .any base t v)
  (hW:DataW.Whole enc Tryz.prog Tryz.f3.params.toList Rows.cascadeAnySpec.vars false W args.toList ds gs before)
  (hZ:(DataW.weightsEach Tryz.prog (Tryz.f3.params.toList++Rows.cascadeAnySpec.plain.varTypes Tryz.prog) (ds++gs)).all (·<=reachBytes)=true) :
  Calls Tryz.prog 3 args W fun e W'=>∃ v,e=.returned v/\Rows.cascadeAnySpec.post enc Tryz.prog Tryz.f3 false true false false W args v W':=by
 have hW0:=hW;obtain ⟨p,q,hA0,hV,rfl,hfz,hnd⟩:=hW;have hA:DataW.TrodAll enc Tryz.prog W 0 (fun _=>true) true Tryz.f3.params.toList args.toList ds p:=hA0;have hZ':=hZ;rw [Tryz.params3] at hA hval hZ';obtain ⟨v0,vs0,d0,ds0,p0,q0,hargs,rfl,rfl,h0,t0⟩:=trodAll_cons hA;obtain ⟨v1,vs1,d1,ds1,p1,q1,hvs1,rfl,rfl,h1,t1⟩:=trodAll_cons t0;obtain ⟨v2,vs2,d2,ds2,p2,q2,hvs2,rfl,rfl,h2,t2⟩:=trodAll_cons t1;obtain ⟨v3,vs3,d3,ds3,p3,q3,hvs3,rfl,rfl,h3,t3⟩:=trodAll_cons t2;obtain ⟨v4,vs4,d4,ds4,p4,q4,hvs4,rfl,rfl,h4,t4⟩:=trodAll_cons t3;obtain ⟨hn1,rfl,rfl⟩:=trodAll_nil t4;obtain ⟨rfl,rfl⟩:=trodVars_none hV;have hargs':args=#[v0,v1,v2,v3,v4]:=by
  have:args.toList=[v0,v1,v2,v3,v4]:=by rw [hargs,hvs1,hvs2,hvs3,hvs4,hn1]
  rw [<-Array.toArray_toList (xs:=args),this]
 subst hargs';obtain ⟨fu0,k0⟩:=h0;obtain ⟨y0,w0,r0⟩:=(tv Tryz.underlying22 Cq (by decide) byof33 Fi) _ _ _ _ _ _ _ _ _ k0 (sz_arg hZ' (j:=0) rfl rfl);obtain ⟨a0,len0,cap0,hv0⟩:=okWide_slice Tryz.underlying22 (hval 0 22 v0 rfl rfl);subst hv0;have g0:=tG rfl r0;obtain ⟨fu1,k1⟩:=h1;obtain ⟨y1,w1,r1⟩:=(ms Tryz.underlying3) _ _ _ _ _ _ _ _ _ k1 (sz_arg hZ' (j:=1) rfl rfl);obtain ⟨n1,hv1⟩:=okWide_int Tryz.underlying3 (hval 1 3 v1 rfl rfl);subst hv1;have g1:=tG rfl r1;obtain ⟨fu2,k2⟩:=h2;obtain ⟨y2,w2,r2⟩:=(ms Tryz.underlying3) _ _ _ _ _ _ _ _ _ k2 (sz_arg hZ' (j:=2) rfl rfl);obtain ⟨n2,hv2⟩:=okWide_int Tryz.underlying3 (hval 2 3 v2 rfl rfl);subst hv2;have g2:=tG rfl r2;obtain ⟨fu3,k3⟩:=h3;obtain ⟨y3,w3,r3⟩:=(tv Tryz.underlying23 Ck (by decide) byof36 E5) _ _ _ _ _ _ _ _ _ k3 (sz_arg hZ' (j:=3) rfl rfl);obtain ⟨a3,len3,cap3,hv3⟩:=okWide_slice Tryz.underlying23 (hval 3 23 v3 rfl rfl);subst hv3;have g3:=tG rfl r3;obtain ⟨fu4,k4⟩:=h4;obtain ⟨y4,w4,r4⟩:=(tv Tryz.underlying24 cells3 (by decide) byof3 (ms Tryz.underlying3)) _ _ _ _ _ _ _ _ _ k4 (sz_arg hZ' (j:=4) rfl rfl);obtain ⟨a4,len4,cap4,hv4⟩:=okWide_slice Tryz.underlying24 (hval 4 24 v4 rfl rfl);subst hv4;have g4:=tG rfl r4;obtain ⟨N,hN⟩:=plain y0 w0 y1 w1 y2 w2 y3 w3 y4 w4;refine (Bd (us:=[_,_,_,_,_]) (⟨Tryz.func3,rfl,by decide,by kernel_rfl⟩:FunOk Tryz.prog 3 _ _) (qK N y0 y1 y2 y3 y4 true hN) rfl (qL g0 (qL g1 (qL g2 (qL g3 (qL g4 (Et))))))).mono fun e W' he=>?_;obtain ⟨he,hfr⟩:=he;subst he;refine ⟨_,rfl,E8 (tb:=4) FA ?_ (by kernel_rfl) Tryz.underlying4 rfl rfl hW0 hfr⟩;intro t ht;have:=List.all_eq_true.1 Fb t ht;rw [Bool.and_eq_true,decide_eq_true_eq] at this;exact this

set_option maxRecDepth 100000 in
theorem lifted (os:Os) (started:os.Started) (H:Type) (enc:TypeId × Go.Value->H) :
  ReturnsInHanded {} Tryz.checked os 3 .any (Rows.cascadeAnySpec.pre6 enc Tryz.prog Tryz.f3 Rows.cascadeAnyRow.domain false) (Rows.cascadeAnySpec.post enc Tryz.prog Tryz.f3 false true false false):=by
 refine returnsInHanded_of_change_sized (C:=Tryz.checked) own started (by kernel_rfl) Tryz.func3
  (ChangeSpec.witness6 (enc:=enc) (C:=Tryz.checked) false ⟨#[],#[.slice none 0 0,.int .i64 0,.int .i64 0,.slice none 0 0,.slice none 0 0],[]⟩ 12 (by kernel_rfl) (by kernel_rfl) (by kernel_rfl) (by kernel_rfl)) ?_
 intro W base args ds gs before hval hW _ hz _;exact Fg H enc W base args ds gs before hval hW hz

theorem cascadeAny_holds:Rows.CascadeAnySaid:=
 OpenClaim.holds_of_wide 3 Tryz.f3 rfl rfl rfl rfl rfl rfl rfl ⟨rfl,rfl,rfl,rfl,rfl⟩ rfl rfl rfl rfl rfl (by kernel_rfl) Tryz.func3 (by kernel_rfl)
  (of_decide_eq_true (by kernel_rfl)) (by unfold Func.isWrapper; first|(rw [if_pos (by decide +kernel)]; kernel_rfl)|(rw [if_neg (by decide +kernel)]; exact ⟨rfl,rfl⟩))
  (fun os started H enc _=>lifted os started H enc)
end Go.Proofs.YtekgpnhfhkhpaaaGreat
