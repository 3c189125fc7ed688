/- The statement TxnSequencesSaid is proved: for every input the law TxnSequences returns true,and what it was given reads as before. No condition. -/
import Derived.Test.YtmacaidmhchpgaaGreatRows
import Derived.Test.YtmacaidmhchpgaaGreatWB
import Derived.Test.YtmacaidmhchpgaaGreatLB
import Derived.WalkKit
import Derived.ProofKit
import Derived.OpenShut
import Derived.SizedLaws
set_option linter.unusedSimpArgs false
set_option linter.unusedVariables false
set_option maxRecDepth 100000
namespace Go.Proofs.YtmacaidmhchpgaaGreat
open Go Go.Proofs Go.Abs Go.ChangeShapes Go.WideShapes Go.ChangeAt Go.RowKit
open Go.ChangeMaps (open_string shut_string)
def al.wf(x:al):Prop:=(Lit.int .u8 x.Kind).wf=true/\(Lit.int .u8 x.Who).wf=true/\(Lit.int .u8 x.Arg).wf=true/\(Lit.int .i64 x.N).wf=true/\True
theorem Zq:Tryz.prog.cellsOf 33=4:=by kernel_rfl
theorem XI:Tryz.prog.cellsOf 5=1:=by kernel_rfl
theorem afu:Tryz.prog.cellsOf 3=1:=by kernel_rfl
theorem ace:RD Tryz.prog 33 al.row al.wf:=by
 intro H enc w base spare held fuel cs x h hz;obtain⟨xs,n,rfl,rfl,hl,hx,hf⟩:=DataW.trod_struct Tryz.underlying33 h;rw[Zq]at hl;have e0:DataW.trod enc Tryz.prog w base spare held n 5 ((cs.drop 0).take (Tryz.prog.cellsOf 5))=xs[0]?:=hf 0 _ rfl;obtain⟨x0,h0⟩:∃q,xs[0]?=some q:=⟨xs[0]'(by rw[hx];decide),cj _⟩;rw[h0,XI]at e0;obtain⟨y0,w0,r0⟩:=(Jo Tryz.underlying5) H enc w base spare held n _ x0 e0 (Md Tryz.underlying33 hz (i:=0) rfl (by rw[cz,h0];rfl));have r0':rU w ((cs.drop 0).take 1) ((aA .u8) y0):=r0;have e1:DataW.trod enc Tryz.prog w base spare held n 5 ((cs.drop 1).take (Tryz.prog.cellsOf 5))=xs[1]?:=hf 1 _ rfl;obtain⟨x1,h1⟩:∃q,xs[1]?=some q:=⟨xs[1]'(by rw[hx];decide),cj _⟩;rw[h1,XI]at e1;obtain⟨y1,w1,r1⟩:=(Jo Tryz.underlying5) H enc w base spare held n _ x1 e1 (Md Tryz.underlying33 hz (i:=1) rfl (by rw[cz,h1];rfl));have r1':rU w ((cs.drop 1).take 1) ((aA .u8) y1):=r1;have e2:DataW.trod enc Tryz.prog w base spare held n 5 ((cs.drop 2).take (Tryz.prog.cellsOf 5))=xs[2]?:=hf 2 _ rfl;obtain⟨x2,h2⟩:∃q,xs[2]?=some q:=⟨xs[2]'(by rw[hx];decide),cj _⟩;rw[h2,XI]at e2;obtain⟨y2,w2,r2⟩:=(Jo Tryz.underlying5) H enc w base spare held n _ x2 e2 (Md Tryz.underlying33 hz (i:=2) rfl (by rw[cz,h2];rfl));have r2':rU w ((cs.drop 2).take 1) ((aA .u8) y2):=r2;have e3:DataW.trod enc Tryz.prog w base spare held n 3 ((cs.drop 3).take (Tryz.prog.cellsOf 3))=xs[3]?:=hf 3 _ rfl;obtain⟨x3,h3⟩:∃q,xs[3]?=some q:=⟨xs[3]'(by rw[hx];decide),cj _⟩;rw[h3,afu]at e3;obtain⟨y3,w3,r3⟩:=(Jo Tryz.underlying3) H enc w base spare held n _ x3 e3 (Md Tryz.underlying33 hz (i:=3) rfl (by rw[cz,h3];rfl));have r3':rU w ((cs.drop 3).take 1) ((aA .i64) y3):=r3;exact⟨⟨y0,y1,y2,y3⟩,⟨w0,w1,w2,w3,trivial⟩,HJ (o:=0) (s:=1) r0' (HJ (o:=1) (s:=1) r1' (HJ (o:=2) (s:=1) r2' (HJ (o:=3) (s:=1) r3' (ZF (o:=4) (by omega)))))⟩
theorem ae2:Tryz.prog.bytesOf 33=16:=by kernel_rfl
theorem ah5:Tryz.prog.cellsOf 22=1:=by kernel_rfl
theorem plain:(y0:List al)->(y0.length*16<=140737488351232/\∀z0∈y0,al.wf z0)->∃N,lz N y0=some true:=fun ls hw=>⟨200000,OC ls (fun x hx=>by have q:=hw.2 x hx;simp[al.wf,Lit.wf,IntKind.min,IntKind.max,IntKind.signed,IntKind.bits]at q;exact⟨by omega,by omega,by omega⟩)⟩
theorem own:ownKnob Tryz.prog.godebug=none:=by kernel_rfl
theorem ad9:laidOutB Tryz.prog=true:=by kernel_rfl
theorem acE:((Tryz.f8.params.toList).all fun t=>Tryz.prog.readableRec t&&decide (t<Tryz.prog.types.size))=true:=by kernel_rfl
theorem adk(H:Type)(enc:TypeId×Go.Value->H)(W:World)(base:Nat)(args:Array Go.Value)(ds gs:List (DataW H))(before:List MemPlace)
  (hval:∀(j:Nat) t v,Tryz.f8.params[j]?=some t->args[j]?=some v->Go.Value.okWide Tryz.prog W .any base t v)
  (hW:DataW.Whole enc Tryz.prog Tryz.f8.params.toList Rows.txnSequencesSpec.vars false W args.toList ds gs before)
  (hZ:(DataW.weightsEach Tryz.prog (Tryz.f8.params.toList++Rows.txnSequencesSpec.plain.varTypes Tryz.prog) (ds++gs)).all (·<=reachBytes)=true):
  Calls Tryz.prog 8 args W fun e W'=>∃v,e=.returned v/\Rows.txnSequencesSpec.post enc Tryz.prog Tryz.f8 false true false false W args v W':=by
 have hW0:=hW;obtain⟨p,q,hA0,hV,rfl,hfz,hnd⟩:=hW;have hA:DataW.TrodAll enc Tryz.prog W 0 (fun _=>true) true Tryz.f8.params.toList args.toList ds p:=hA0;have hZ':=hZ;rw[Tryz.params8]at hA hval hZ';obtain⟨v0,vs0,d0,ds0,p0,q0,hargs,rfl,rfl,h0,t0⟩:=trodAll_cons hA;obtain⟨hn1,rfl,rfl⟩:=trodAll_nil t0;obtain⟨rfl,rfl⟩:=trodVars_none hV;have hargs':args=#[v0]:=by
  have:args.toList=[v0]:=by rw[hargs,hn1]
  rw[<-Array.toArray_toList (xs:=args),this]
 subst hargs';obtain⟨fu0,k0⟩:=h0;obtain⟨y0,w0,r0⟩:=(YX Tryz.underlying22 Zq (by decide) ae2 ace) _ _ _ _ _ _ _ _ _ k0 (afj hZ' (j:=0) rfl rfl);obtain⟨a0,len0,cap0,hv0⟩:=okWide_slice Tryz.underlying22 (hval 0 22 v0 rfl rfl);subst hv0;have g0:=aeq rfl r0;obtain⟨N,hN⟩:=plain y0 w0;refine(Xn (us:=[_]) (⟨Tryz.func8,rfl,by decide,by kernel_rfl⟩:Jy Tryz.prog 8 _ _) (DW N y0 true hN) rfl (abo g0 (adr))).mono fun e W' he=>?_;obtain⟨he,hfr⟩:=he;subst he;refine⟨_,rfl,acI (tb:=4) ad9 ?_ (by kernel_rfl) Tryz.underlying4 rfl rfl hW0 hfr⟩;intro t ht;have:=cE.1 acE t ht;rw[cx,decide_eq_true_eq]at this;exact this
set_option maxRecDepth 100000 in
theorem afr(os:Os)(started:os.Started)(H:Type)(enc:TypeId×Go.Value->H):
  ReturnsInHanded {} Tryz.checked os 8 .any (Rows.txnSequencesSpec.pre6 enc Tryz.prog Tryz.f8 Rows.txnSequencesRow.domain false) (Rows.txnSequencesSpec.post enc Tryz.prog Tryz.f8 false true false false):=by
 refine returnsInHanded_of_change_sized (C:=Tryz.checked) own started (by kernel_rfl) Tryz.func8
  (ChangeSpec.witness6 (enc:=enc) (C:=Tryz.checked) false ⟨#[],#[.slice none 0 0],[]⟩ 12 (by kernel_rfl) (by kernel_rfl) (by kernel_rfl) (by kernel_rfl)) ?_
 intro W base args ds gs before hval hW _ hz _;exact adk H enc W base args ds gs before hval hW hz
theorem txnSequences_holds:Rows.TxnSequencesSaid:=
 OpenClaim.holds_of_wide 8 Tryz.f8 rfl rfl rfl rfl rfl rfl rfl ⟨rfl,rfl,rfl,rfl,rfl⟩ rfl rfl rfl rfl rfl (by kernel_rfl) Tryz.func8 (by kernel_rfl)
  (of_decide_eq_true (by kernel_rfl)) (by unfold Func.isWrapper;first|(rw[if_pos (by decide +kernel)];kernel_rfl)|(rw[if_neg (by decide +kernel)];exact⟨rfl,rfl⟩))
  (fun os started H enc _=>afr os started H enc)
end Go.Proofs.YtmacaidmhchpgaaGreat
