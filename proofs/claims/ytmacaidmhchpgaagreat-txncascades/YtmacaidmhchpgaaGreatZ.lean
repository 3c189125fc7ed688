/- The statement TxnCascadesSaid is proved: for every input the law TxnCascades returns true,and what it was given reads as before. No condition. -/
import Derived.Test.YtmacaidmhchpgaaGreatRows
import Derived.Test.YtmacaidmhchpgaaGreatWB
import Derived.Test.YtmacaidmhchpgaaGreatLB
import Derived.WalkKit
import Derived.ProofKit
import Derived.OpenShut
import Derived.SizedLaws
set_option linter.unusedSimpArgs false
set_option linter.unusedVariables false
set_option maxRecDepth 100000
namespace Go.Proofs.YtmacaidmhchpgaaGreat
open Go Go.Proofs Go.Abs Go.ChangeShapes Go.WideShapes Go.ChangeAt Go.RowKit
open Go.ChangeMaps (open_string shut_string)
def aj.wf (x:aj):Prop:=(Lit.int .u8 x.Kind).wf=true/\(Lit.int .u8 x.Who).wf=true/\(Lit.int .u8 x.Arg).wf=true/\(Lit.int .i64 x.N).wf=true/\True
theorem Tc:Tryz.prog.cellsOf 33=4:=by kernel_rfl
theorem RB:Tryz.prog.cellsOf 5=1:=by kernel_rfl
theorem Zl:Tryz.prog.cellsOf 3=1:=by kernel_rfl
theorem WK:Na Tryz.prog 33 aj.row aj.wf:=by
 intro H enc w base spare held fuel cs x h hz;obtain ⟨xs,n,rfl,rfl,hl,hx,hf⟩:=DataW.trod_struct Tryz.underlying33 h;rw [Tc] at hl;have e0:DataW.trod enc Tryz.prog w base spare held n 5 ((cs.drop 0).take (Tryz.prog.cellsOf 5))=xs[0]?:=hf 0 _ rfl;obtain ⟨x0,h0⟩:∃ q,xs[0]?=some q:=⟨xs[0]'(by rw [hx]; decide),cn _⟩;rw [h0,RB] at e0;obtain ⟨y0,w0,r0⟩:=(BO Tryz.underlying5) H enc w base spare held n _ x0 e0 (Gk Tryz.underlying33 hz (i:=0) rfl (by rw [cu,h0]; rfl));have r0':pE w ((cs.drop 0).take 1) ((ay .u8) y0):=r0;have e1:DataW.trod enc Tryz.prog w base spare held n 5 ((cs.drop 1).take (Tryz.prog.cellsOf 5))=xs[1]?:=hf 1 _ rfl;obtain ⟨x1,h1⟩:∃ q,xs[1]?=some q:=⟨xs[1]'(by rw [hx]; decide),cn _⟩;rw [h1,RB] at e1;obtain ⟨y1,w1,r1⟩:=(BO Tryz.underlying5) H enc w base spare held n _ x1 e1 (Gk Tryz.underlying33 hz (i:=1) rfl (by rw [cu,h1]; rfl));have r1':pE w ((cs.drop 1).take 1) ((ay .u8) y1):=r1;have e2:DataW.trod enc Tryz.prog w base spare held n 5 ((cs.drop 2).take (Tryz.prog.cellsOf 5))=xs[2]?:=hf 2 _ rfl;obtain ⟨x2,h2⟩:∃ q,xs[2]?=some q:=⟨xs[2]'(by rw [hx]; decide),cn _⟩;rw [h2,RB] at e2;obtain ⟨y2,w2,r2⟩:=(BO Tryz.underlying5) H enc w base spare held n _ x2 e2 (Gk Tryz.underlying33 hz (i:=2) rfl (by rw [cu,h2]; rfl));have r2':pE w ((cs.drop 2).take 1) ((ay .u8) y2):=r2;have e3:DataW.trod enc Tryz.prog w base spare held n 3 ((cs.drop 3).take (Tryz.prog.cellsOf 3))=xs[3]?:=hf 3 _ rfl;obtain ⟨x3,h3⟩:∃ q,xs[3]?=some q:=⟨xs[3]'(by rw [hx]; decide),cn _⟩;rw [h3,Zl] at e3;obtain ⟨y3,w3,r3⟩:=(BO Tryz.underlying3) H enc w base spare held n _ x3 e3 (Gk Tryz.underlying33 hz (i:=3) rfl (by rw [cu,h3]; rfl));have r3':pE w ((cs.drop 3).take 1) ((ay .i64) y3):=r3;exact ⟨⟨y0,y1,y2,y3⟩,⟨w0,w1,w2,w3,trivial⟩,CY (o:=0) (s:=1) r0' (CY (o:=1) (s:=1) r1' (CY (o:=2) (s:=1) r2' (CY (o:=3) (s:=1) r3' (UB (o:=4) (by omega)))))⟩
theorem Zs:Tryz.prog.bytesOf 33=16:=by kernel_rfl
theorem acr:Tryz.prog.cellsOf 22=1:=by kernel_rfl
theorem plain:(y0:List aj)->(y0.length * 16<=140737488351232/\∀ z0∈y0,aj.wf z0)->(y1:Int)->(Lit.int .u8 y1).wf=true->∃ N,kF N y0 y1=some true:=fun ls hw n hn=>⟨200000,J9 ls n (fun x hx=>by have q:=hw.2 x hx; simp [aj.wf,Lit.wf,IntKind.min,IntKind.max,IntKind.signed,IntKind.bits] at q; exact ⟨by omega,by omega,by omega⟩) (by simpa [Lit.wf,IntKind.min,IntKind.max,IntKind.signed,IntKind.bits] using hn:0<=n/\n<=255).1 (by simpa [Lit.wf,IntKind.min,IntKind.max,IntKind.signed,IntKind.bits] using hn:0<=n/\n<=255).2⟩
theorem own:ownKnob Tryz.prog.godebug=none:=by kernel_rfl
theorem Y2:laidOutB Tryz.prog=true:=by kernel_rfl
theorem WE:((Tryz.f4.params.toList).all fun t=>Tryz.prog.readableRec t && decide (t < Tryz.prog.types.size))=true:=by kernel_rfl
theorem XH (H:Type) (enc:TypeId × Go.Value->H) (W:World) (base:Nat) (args:Array Go.Value) (ds gs:List (DataW H)) (before:List MemPlace)
  (hval:∀ (j:Nat) t v,Tryz.f4.params[j]?=some t->args[j]?=some v->Go.Value.okWide Tryz.prog W .any base t v)
  (hW:DataW.Whole enc Tryz.prog Tryz.f4.params.toList Rows.txnCascadesSpec.vars false W args.toList ds gs before)
  (hZ:(DataW.weightsEach Tryz.prog (Tryz.f4.params.toList++Rows.txnCascadesSpec.plain.varTypes Tryz.prog) (ds++gs)).all (·<=reachBytes)=true) :
  Calls Tryz.prog 4 args W fun e W'=>∃ v,e=.returned v/\Rows.txnCascadesSpec.post enc Tryz.prog Tryz.f4 false true false false W args v W':=by
 have hW0:=hW;obtain ⟨p,q,hA0,hV,rfl,hfz,hnd⟩:=hW;have hA:DataW.TrodAll enc Tryz.prog W 0 (fun _=>true) true Tryz.f4.params.toList args.toList ds p:=hA0;have hZ':=hZ;rw [Tryz.params4] at hA hval hZ';obtain ⟨v0,vs0,d0,ds0,p0,q0,hargs,rfl,rfl,h0,t0⟩:=trodAll_cons hA;obtain ⟨v1,vs1,d1,ds1,p1,q1,hvs1,rfl,rfl,h1,t1⟩:=trodAll_cons t0;obtain ⟨hn1,rfl,rfl⟩:=trodAll_nil t1;obtain ⟨rfl,rfl⟩:=trodVars_none hV;have hargs':args=#[v0,v1]:=by
  have:args.toList=[v0,v1]:=by rw [hargs,hvs1,hn1]
  rw [<-xL (xs:=args),this]
 subst hargs';obtain ⟨fu0,k0⟩:=h0;obtain ⟨y0,w0,r0⟩:=(Sw Tryz.underlying22 Tc (by decide) Zs WK) _ _ _ _ _ _ _ _ _ k0 (Vb hZ' (j:=0) rfl rfl);obtain ⟨a0,len0,cap0,hv0⟩:=okWide_slice Tryz.underlying22 (hval 0 22 v0 rfl rfl);subst hv0;have g0:=Th rfl r0;obtain ⟨fu1,k1⟩:=h1;obtain ⟨y1,w1,r1⟩:=(BO Tryz.underlying5) _ _ _ _ _ _ _ _ _ k1 (Vb hZ' (j:=1) rfl rfl);obtain ⟨n1,hv1⟩:=okWide_int Tryz.underlying5 (hval 1 5 v1 rfl rfl);subst hv1;have g1:=Th rfl r1;obtain ⟨N,hN⟩:=plain y0 w0 y1 w1;refine (Qt (us:=[_,_]) (⟨Tryz.func4,rfl,by decide,by kernel_rfl⟩:EJ Tryz.prog 4 _ _) (Av N y0 y1 true hN) rfl (OP g0 (OP g1 (XE)))).mono fun e W' he=>?_;obtain ⟨he,hfr⟩:=he;subst he;refine ⟨_,rfl,W3 (tb:=4) Y2 ?_ (by kernel_rfl) Tryz.underlying4 rfl rfl hW0 hfr⟩;intro t ht;have:=cq.1 WE t ht;rw [cv,decide_eq_true_eq] at this;exact this
set_option maxRecDepth 100000 in
theorem ZG (os:Os) (started:os.Started) (H:Type) (enc:TypeId × Go.Value->H) :
  ReturnsInHanded {} Tryz.checked os 4 .any (Rows.txnCascadesSpec.pre6 enc Tryz.prog Tryz.f4 Rows.txnCascadesRow.domain false) (Rows.txnCascadesSpec.post enc Tryz.prog Tryz.f4 false true false false):=by
 refine returnsInHanded_of_change_sized (C:=Tryz.checked) own started (by kernel_rfl) Tryz.func4
  (ChangeSpec.witness6 (enc:=enc) (C:=Tryz.checked) false ⟨#[],#[.slice none 0 0,.int .u8 0],[]⟩ 12 (by kernel_rfl) (by kernel_rfl) (by kernel_rfl) (by kernel_rfl)) ?_
 intro W base args ds gs before hval hW _ hz _;exact XH H enc W base args ds gs before hval hW hz
theorem txnCascades_holds:Rows.TxnCascadesSaid:=
 OpenClaim.holds_of_wide 4 Tryz.f4 rfl rfl rfl rfl rfl rfl rfl ⟨rfl,rfl,rfl,rfl,rfl⟩ rfl rfl rfl rfl rfl (by kernel_rfl) Tryz.func4 (by kernel_rfl)
  (of_decide_eq_true (by kernel_rfl)) (by unfold Func.isWrapper; first|(rw [if_pos (by decide +kernel)]; kernel_rfl)|(rw [if_neg (by decide +kernel)]; exact ⟨rfl,rfl⟩))
  (fun os started H enc _=>ZG os started H enc)
end Go.Proofs.YtmacaidmhchpgaaGreat
