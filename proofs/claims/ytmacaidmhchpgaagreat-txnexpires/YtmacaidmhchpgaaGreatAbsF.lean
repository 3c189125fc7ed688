/- A library of readings of Go values with their ownership,and of walks on them. No statement of the program. -/
import Derived.Test.YtmacaidmhchpgaaGreatAbsE
set_option linter.defProp false
set_option linter.unusedSimpArgs false
set_option linter.unusedVariables false
namespace Go.Abs
def lM(ops:Array Oper):List Nat->List Oper
 | []=>[]
 | i::l=>match ops[i]? with
  | some o=>o::lM ops l
  | none=>lM ops l
attribute [go_sem] lM
section
variable {X:Ctx} {m:Nat->aq->Value} {st:St} {a:Act} {w:World} {P:Program}
def Po{E:Env}(hT:TOk P E){s:Nat}{ti:TI}(ht:eU P s ti){f:Nat}{x c:C}{u:Value}(hx:aB X m st w x u)(hc:qv E ti f x=some c):∃v,(∀w2,(Instr.fieldAt s u f).run P w2=.ok v w2)/\aB X m st w c v:=by
 obtain⟨d,hd,hagg,hk⟩:=ht.und;unfold qv at hc;split at hc
 .rename_i fs hkind;rw[hkind]at hk;obtain⟨fields,rfl,hf,_⟩:=hk;split at hc
  .rename_i o t hfs;obtain⟨fl,h1,rfl,rfl⟩:=hf f _ _ hfs;split at hc
   .rename_i ft hft;split at hc
    .simp at hc
    .rename_i hz;have hrun:∀b o' w2,(Instr.fieldAt s (.pointer (some ⟨b,o',none⟩)) f).run P w2=.ok (.pointer (some ⟨b,o'+fl.offset,none⟩)) w2:=by
      intro b o' w2;have hsz:=(hT _ ft hft).size (w:=w2);simp[Instr.fieldAt,run_underlying hd,h1,Instr.sureAddr,fieldPlace,hsz,hz,Addr.add_lit]
     split at hc
     .simp only[acB]at hc;subst hc;obtain⟨d,hx⟩:=hx;cases d with
      | zero=>exact hx.elim
      | succ d=>
       obtain⟨nl',es',cap',rows',b',off',k',f1,f2,rfl⟩:=hx;exact⟨_,hrun _ _,1,nl',es',cap',rows',b',off',k',f1,f2,by simp[adw]⟩
     .simp only[acB]at hc;subst hc;obtain⟨d,hx⟩:=hx;cases d with
      | zero=>exact hx.elim
      | succ d=>
       obtain⟨b,off,arr,elem,frz,rfl,g2⟩:=hx;exact⟨_,hrun _ _,d+1,b,off,arr,elem,frz,by simp[adw],g2⟩
     .simp at hc
   .simp at hc
  .simp at hc
 .simp at hc
def Pc(h:ar X m st a w){t:Nat}{ti:TI}(ht:eU P t ti){x ix c:C}{u v:Value}(hx:aB X m st w x u)(hix:aB X m st w ix v)(hc:kn st ti x ix=some c):
  ∃r,(∀w2,(Instr.indexAt t u v).run P w2=.ok r w2)/\aB X m st w c r:=by
 obtain⟨d,hd,hagg,hk⟩:=ht.und;unfold kn at hc;split at hc
 .rename_i e es k i hkind;rw[hkind]at hk;obtain⟨rfl,ie,hi1,hi2⟩:=hk;obtain rfl:=hix.of_val;have hsz:∀w2,(sizeOf e).run P w2=.ok es w2:=by intro w2;simp[sizeOf,typeInfo,hi1,hi2]
  split at hc
  .rename_i n p lo len cap;split at hc
   .rename_i nl es' cap' rows hn;split at hc
    .rename_i hcond;obtain⟨hes,h0,h1⟩:=hcond;obtain rfl:=hes.symm;simp only[acB]at hc;subst hc;obtain⟨nl',es',cap'',rows',a0,k0,a',k',g1,g2,g3,rfl,g5,g6,g7,g8,g9⟩:=ek hx;have hn':(st.roots n).at p=some (.sl true nl es cap' rows):=hn;rw[hn']at g1;simp only[acB,C.sl.injEq,true_and]at g1;obtain⟨rfl,rfl,rfl,rfl⟩:=g1;rcases g9 with g9|⟨b,off,rfl,rfl⟩
     .omega
     .refine⟨.pointer (some ⟨b,off+lo*es+i.toNat*es,none⟩),?_,1,nl,es,cap',rows,b,off,k0,hn',g2,?_⟩
      .intro w2;simp[Instr.indexAt,asIntOf,run_underlying hd,h0,h1,hsz,Addr.add_lit]
      .simp[adf,adw]
    .simp at hc
   .simp at hc
  .rename_i own nl es' cap rows;split at hc
   .rename_i hcond;obtain⟨hes,h0,h1⟩:=hcond;obtain rfl:=hes.symm;simp only[acB]at hc;subst hc;obtain⟨a0,k0,rfl,g2,g3,g4,gz,g5,g6⟩:=wg hx;rcases g6 with rfl|⟨b,off,arr,elem,frz,rfl,e2,e3,dd,e5⟩
    .simp at h1;omega
    .refine⟨.pointer (some ⟨b,off+i.toNat*es,none⟩),?_,dd+1,b,off,arr,elem,frz,by simp,e2,e3,g5,fun i j row c' f1 f2=>?_⟩
     .intro w2;simp[Instr.indexAt,asIntOf,run_underlying hd,h0,h1,hsz,Addr.add_lit]
     .exact e5 i j row c' f1 f2
   .simp at hc
  .simp at hc
 .rename_i n e es k i hkind;rw[hkind]at hk;obtain⟨rfl,ie,hi1,hi2⟩:=hk;obtain rfl:=hix.of_val;have hsz:∀w2,(sizeOf e).run P w2=.ok es w2:=by intro w2;simp[sizeOf,typeInfo,hi1,hi2]
  split at hc
  .rename_i hcond;obtain⟨h0,h1⟩:=hcond;have hrun:∀b o w2,(Instr.indexAt t (.pointer (some ⟨b,o,none⟩)) (.int k i)).run P w2=.ok (.pointer (some ⟨b,o+i.toNat*es,none⟩)) w2:=by
    intro b o w2;simp[Instr.indexAt,asIntOf,run_underlying hd,Instr.sureAddr,h0,h1,hsz,Addr.add_lit]
   split at hc
   .simp only[acB]at hc;subst hc;obtain⟨nl',es',cap',rows',b',off',k',f1,f2,rfl⟩:=lZ hx;exact⟨_,hrun _ _,1,nl',es',cap',rows',b',off',k',f1,f2,by simp[adw]⟩
   .simp only[acB]at hc;subst hc;obtain⟨d,hx⟩:=hx;cases d with
    | zero=>exact hx.elim
    | succ d=>
     obtain⟨b,off,arr,elem,frz,rfl,g2⟩:=hx;exact⟨_,hrun _ _,d+1,b,off,arr,elem,frz,by simp[adw],g2⟩
   .simp at hc
  .simp at hc
 .simp at hc
def pf(o:Oper):Bool:=o.guard.isNone&&match o.op with
 | .move _=>true
 | .assign _=>true
 | .extract ..=>true
 | .nilCheck _=>true
 | .fieldAddr ..=>true
 | .load ..=>true
 | .indexAddr ..=>true
 | .makeFunc ..=>true
 | .call {callee:=.builtin .len,..}=>true
 | _=>false
def RD(o:Oper):Bool:=match o.op with
 | .load ..=>true
 | _=>false
def IE{E:Env}{o:Oper}(hq:pf o=true){st':St}(h:exe E o st=some st'):∃c,qop E st o.op=some c/\st'=st.put o.dst c:=by
 obtain⟨dst,op,ty,pos,after,guard⟩:=o;simp only[pf,acM]at hq;obtain⟨_,hq⟩:=hq;have key:exe E ⟨dst,op,ty,pos,after,guard⟩ st=dZ ⟨dst,op,ty,pos,after,guard⟩ st (qop E st op)->∃c,qop E st op=some c/\st'=st.put dst c:=by
  intro e;rw[e]at h;cases hc:qop E st op with
  | none=>rw[hc]at h;simp[dZ]at h
  | some c=>rw[hc]at h;simp only[dZ,acB]at h;exact⟨c,rfl,h.symm⟩
 split at hq;all_goals first|(cases hq;done)|skip
 all_goals
  apply key;simp only[exe,kW,kP,gh];split<;>simp_all
def UW{E:Env}(hT:TOk P E)(H:ar X m st a w){o:Oper}(hq:pf o=true)(hl:RD o=false){c:C}(h:qop E st o.op=some c){v:Value}(hv:(execOp a.eval o).run P w=.ok (.value v) w)(w2:World):(execOp a.eval o).run P w2=.ok (.value v) w2:=by
 obtain⟨dst,op,ty,pos,after,guard⟩:=o;simp only[pf,acM]at hq;obtain⟨_,hq⟩:=hq;split at hq
 case h_10=>cases hq
 .simp[execOp]at hv ⊢;exact hv
 .simp[execOp]at hv ⊢;exact hv
 .rename_i x ix;cases hx:a.eval x with
  | tuple vs=>
   cases hvs:vs[ix]? with
   | some v'=>simp[execOp,Instr.extract,hx,hvs]at hv ⊢;exact hv
   | none=>simp[execOp,Instr.extract,hx,hvs,stuck]at hv
  | _=>simp[execOp,Instr.extract,hx,stuck]at hv
 .rename_i x;simp only[qop]at h;have hx:=bm H x;split at h
  .rename_i n p i j he;rw[he]at hx;obtain⟨_,_,_,_,b,off,k,_,_,hu⟩:=lZ hx;simp[execOp,hu]at hv ⊢;exact hv
  .rename_i es rows i j he;rw[he]at hx;obtain⟨b,off,arr,elem,frz,hu,_⟩:=Ns hx;simp[execOp,hu]at hv ⊢;exact hv
  .cases h
 .rename_i s x f;simp only[qop]at h;obtain⟨ti,h1,h2⟩:=acG.1 h;obtain⟨v',e1,_⟩:=Po hT (hT s ti h1) (bm H x) h2;simp only[execOp,Sem.run_bind,e1,Result.andThen_ok,Sem.run_pure]at hv ⊢;simpa using hv
 .cases hl
 .rename_i t x ix;simp only[qop]at h;obtain⟨ti,h1,h2⟩:=acG.1 h;obtain⟨v',e1,_⟩:=Pc H (hT t ti h1) (bm H x) (bm H ix) h2;simp only[execOp,Sem.run_bind,e1,Result.andThen_ok,Sem.run_pure]at hv ⊢;simpa using hv
 .rename_i fn first caps
  simp only[execOp,Instr.makeFunc]at hv ⊢;cases fn<;>simp at hv ⊢<;>first|exact hv|skip
  all_goals simp[qop]at h
 .rename_i args tys;simp only[qop]at h;have hev:=I4 H args.toList;have harr:args.map a.eval=(args.toList.map a.eval).toArray:=by rw[<-ae2,aez]
  have hgo:∀w,(execOp a.eval ⟨dst,.call {callee:=.builtin .len,args:=args,argTypes:=tys},ty,pos,after,guard⟩).run P w=(do pure (.value (<-Builtin.len_ tys ty (args.toList.map a.eval).toArray)):Sem Next).run P w:=by
   intro w;simp only[execOp,resolve,Sem.run_bind,Sem.run_pure,Result.andThen_ok,invoke,builtin,harr]
  rw[hgo]at hv ⊢;generalize args.toList.map a.eval=us at *;generalize args.toList.map st.ev=cs at *;unfold lj at h;split at h
  .obtain⟨u,h1,h2⟩:=hev 0 _ rfl;obtain rfl:=h2.of_val;split at h
   .rename_i ti hti;obtain⟨t,ht0,hti⟩:=acG.1 hti;obtain⟨d,hd,_,hk⟩:=(hT t ti hti).und;split at h
    .rename_i hkind;rw[hkind]at hk;have hk:d=.string:=hk;subst hk;simp[Builtin.len_,ht0,h1,run_underlying hd,goInt]at hv ⊢;exact hv
    .cases h
   .cases h
  .rename_i x _ _;obtain⟨u,h1,h2⟩:=hev 0 _ rfl;split at h
   .rename_i ti hti;obtain⟨t,ht0,hti⟩:=acG.1 hti;obtain⟨d,hd,_,hk⟩:=(hT t ti hti).und;split at h
    .rename_i e es hkind;rw[hkind]at hk;obtain⟨rfl,_⟩:=hk;cases hl:uQ x with
     | none=>simp[hl]at h
     | some n=>
      have:∃ad k,u=.slice ad n k:=by
       cases x with
       | val v=>
        obtain rfl:=h2.of_val;unfold uQ at hl;split at hl<;>simp_all
       | sl own nl es cap rows=>
        obtain⟨a0,k0,rfl,_⟩:=wg h2;simp only[uQ,acB]at hl;exact⟨a0,k0,by rw[hl]⟩
       | pal n' p lo len cap=>
        obtain⟨nl',es'',cap'',rows',a0,k0,a',k',g1,g2,g3,rfl,_⟩:=ek h2;simp only[uQ,acB]at hl;exact⟨a',k',by rw[hl]⟩
       | _=>simp[uQ]at hl
      obtain⟨ad,k,rfl⟩:=this;simp[Builtin.len_,ht0,h1,run_underlying hd,goInt]at hv ⊢;exact hv
    .cases h
   .cases h
  all_goals first|(cases h;done)|(exfalso;simp_all;done)
def TT{E:Env}(hT:TOk P E)(H:ar X m st a w){t:Nat}{ti:TI}(ht:eU P t ti){n i j:Nat}{c:C}{u:Value}(hx:aB X m st w (.pref n [] i j) u)(hc:qP st ti (.pref n [] i j)=some c){v:Value}(hv:(Instr.loadAt t u).run P w=.ok v w):
  ∃b,blk (m n [])=some b/\ak (st.roots n) []/\∀w2,w2.heap[b]?=w.heap[b]?->(Instr.loadAt t u).run P w2=.ok v w2:=by
 simp only[qP]at hc;split at hc
 case h_2=>cases hc
 rename_i nl es cap rows hn;split at hc
 case h_2=>cases hc
 rename_i row hr;split at hc
 case isFalse=>cases hc
 rename_i hj;obtain⟨nl',es',cap',rows',b',off',k',f1,f2,rfl⟩:=lZ hx;have f1':st.node n []=some (.sl true nl' es' cap' rows'):=f1;rw[hn]at f1';simp only[acB,C.sl.injEq,true_and]at f1';obtain⟨rfl,rfl,rfl,rfl⟩:=f1';obtain⟨b,off,k,arr,elem,g1,g2,g3,g4,g5,g6,g7⟩:=Fi H hn hr;rw[g1]at f2;simp only[Value.slice.injEq,acB,Addr.mk.injEq,and_true,true_and]at f2;obtain⟨⟨rfl,rfl⟩,rfl⟩:=f2;have hrl:rows.length≠0:=by intro e;rw[acQ e]at hr;cases hr
 obtain⟨u0,d0,hr0⟩:=H.root n;have hn':st.roots n=.sl true nl es cap rows:=by simpa[St.node,C.at]using hn
 rw[hn']at hr0;obtain⟨a1,k1,D,q1,q2,q3,_⟩:=eh hr0;have hk1:k≠0:=by
  rw[g1]at q2;simp only[Value.slice.injEq]at q2;omega
 refine⟨b,by rw[g1];simp[blk,hk1],by rw[hn'];rfl,?_⟩;have hcell:∀q,q<ti.size->∃u,arr[off+i*es+j+q]?=some u:=by
  intro q hq;have hjl:j+q<row.length:=by omega
  obtain⟨u',e1,_⟩:=g7 (j+q) row[j+q] (acH hjl);exact⟨u',by rw[<-e1];congr 1;omega⟩
 intro w2 hw2;have key:∃v',∀wz:World,wz.heap[b]?=w.heap[b]?->(Instr.loadAt t (.pointer (some ⟨b,off+i*es+j,none⟩))).run P wz=.ok v' wz:=by
  unfold CF at hc;cases hagg:ti.agg with
  | true=>
   refine⟨.agg ((List.range ti.size).map fun q=>(arr[off+i*es+j+q]?).getD undef).toArray,fun wz hz=>?_⟩;have hlc:=run_loadCells_list (P:=P) (w:=wz) ⟨b,off+i*es+j,none⟩ ((List.range ti.size).map fun q=>(arr[off+i*es+j+q]?).getD undef) (by
    intro q v hq;rw[Addr.add_lit,kF (hz.trans g3)];simp only[acK,acF]at hq;obtain⟨q',hq,rfl⟩:=hq;have hlt:=(acD.1 hq).1;rw[ae7 (by simpa using hlt)]at hq;cases hq;obtain⟨u',e1⟩:=hcell q (by simpa using hlt);rw[e1];rfl)
   simp only[acL,afi]at hlc;simp[Instr.loadAt,Instr.sureAddr,loadVar,ht.agg_run,hagg,ht.size,hlc]
  | false=>
   have h0:∃u,arr[off+i*es+j]?=some u:=by
    rw[hagg]at hc;simp only[acO,if_false]at hc;have:(row.drop j).take ti.size≠[]:=by
     intro e;rw[show km n [] i j ((row.drop j).take ti.size)=[]from by rw[e];rfl]at hc;cases hc
    obtain⟨q,hq⟩:∃q,q<ti.size:=by
     cases hs:ti.size with
     | zero=>rw[hs]at this;simp at this
     | succ q=>exact⟨0,by omega⟩
    obtain⟨u',e⟩:=hcell 0 (by omega);exact⟨u',by simpa using e⟩
   obtain⟨u',hu'⟩:=h0;refine⟨u',fun wz hz=>?_⟩;simp[Instr.loadAt,Instr.sureAddr,loadVar,ht.agg_run,hagg,kF (hz.trans g3),hu']
 obtain⟨v',hv'⟩:=key;have:=hv' w rfl;rw[hv]at this;cases this;exact hv' w2 hw2
def Uo{E:Env}(hT:TOk P E)(H:ar X m st a w){t:Nat}{ti:TI}(ht:eU P t ti){n i j:Nat}{p:aq}{c:C}{u:Value}(hx:aB X m st w (.pref n p i j) u)(hc:qP st ti (.pref n p i j)=some c){v:Value}(hv:(Instr.loadAt t u).run P w=.ok v w):
  ∃(b:Nat) (x:Obj),w.heap[b]?=some x/\∀w2:World,w2.heap[b]?=w.heap[b]?->(Instr.loadAt t u).run P w2=.ok v w2:=by
 simp only[qP]at hc;split at hc
 case h_2=>cases hc
 rename_i nl es cap rows hn;split at hc
 case h_2=>cases hc
 rename_i row hr;split at hc
 case isFalse=>cases hc
 rename_i hj;obtain⟨nl',es',cap',rows',b',off',k',f1,f2,rfl⟩:=lZ hx;have f1':st.node n p=some (.sl true nl' es' cap' rows'):=f1;rw[hn]at f1';simp only[acB,C.sl.injEq,true_and]at f1';obtain⟨rfl,rfl,rfl,rfl⟩:=f1';obtain⟨b,off,k,arr,elem,g1,g2,g3,g4,g5,g6,g7⟩:=Fi H hn hr;rw[g1]at f2;simp only[Value.slice.injEq,acB,Addr.mk.injEq,and_true,true_and]at f2;obtain⟨⟨rfl,rfl⟩,rfl⟩:=f2;refine⟨b,_,g3,?_⟩;have hcell:∀q,q<ti.size->∃u,arr[off+i*es+j+q]?=some u:=by
  intro q hq;have hjl:j+q<row.length:=by omega
  obtain⟨u',e1,_⟩:=g7 (j+q) row[j+q] (acH hjl);exact⟨u',by rw[<-e1];congr 1;omega⟩
 intro w2 hw2;have key:∃v',∀wz:World,wz.heap[b]?=w.heap[b]?->(Instr.loadAt t (.pointer (some ⟨b,off+i*es+j,none⟩))).run P wz=.ok v' wz:=by
  unfold CF at hc;cases hagg:ti.agg with
  | true=>
   refine⟨.agg ((List.range ti.size).map fun q=>(arr[off+i*es+j+q]?).getD undef).toArray,fun wz hz=>?_⟩;have hlc:=run_loadCells_list (P:=P) (w:=wz) ⟨b,off+i*es+j,none⟩ ((List.range ti.size).map fun q=>(arr[off+i*es+j+q]?).getD undef) (by
    intro q v hq;rw[Addr.add_lit,kF (hz.trans g3)];simp only[acK,acF]at hq;obtain⟨q',hq,rfl⟩:=hq;have hlt:=(acD.1 hq).1;rw[ae7 (by simpa using hlt)]at hq;cases hq;obtain⟨u',e1⟩:=hcell q (by simpa using hlt);rw[e1];rfl)
   simp only[acL,afi]at hlc;simp[Instr.loadAt,Instr.sureAddr,loadVar,ht.agg_run,hagg,ht.size,hlc]
  | false=>
   have h0:∃u,arr[off+i*es+j]?=some u:=by
    rw[hagg]at hc;simp only[acO,if_false]at hc;have:(row.drop j).take ti.size≠[]:=by
     intro e;rw[show km n p i j ((row.drop j).take ti.size)=[]from by rw[e];rfl]at hc;cases hc
    obtain⟨q,hq⟩:∃q,q<ti.size:=by
     cases hs:ti.size with
     | zero=>rw[hs]at this;simp at this
     | succ q=>exact⟨0,by omega⟩
    obtain⟨u',e⟩:=hcell 0 (by omega);exact⟨u',by simpa using e⟩
   obtain⟨u',hu'⟩:=h0;refine⟨u',fun wz hz=>?_⟩;simp[Instr.loadAt,Instr.sureAddr,loadVar,ht.agg_run,hagg,kF (hz.trans g3),hu']
 obtain⟨v',hv'⟩:=key;have:=hv' w rfl;rw[hv]at this;cases this;exact hv' w2 hw2
def XN(s:St):C->Bool
 | .pal n [] lo len _=>match s.roots n with
  | .sl true _ _ _ rows=>decide (rows.length<=lo+len)
  | _=>true
 | .pal _ (_::_) _ _ _=>true
 | _=>false
def UH(d:Nat):C->Bool
 | .pal n _ _ _ _=>Nat.blt n H0 && !(n == d)
 | _=>false
def Su(l:List (List C)):(frzRows l).length=l.length:=by simp[frzRows]
theorem VC{E:Env}{d:Nat}{ti tix te:TI}{e es:Nat}{x y:Operand}{s st':St}(hk:ti.kind=.slice e es)(hte:E.T e=some te)(hh:UH d (s.ev x)=true)(hkx:tix.kind=.slice e es)(h:gA d es te tix (s.ev x) (s.ev y) s=some st'):∃s1,y9 E d ti x y s=some s1:=by
 unfold gA at h;split at h
 case h_2=>cases h
 rename_i kk olds ex hroom hold hex;split at h
 case isFalse=>cases h
 rename_i hc;obtain⟨_,hes,hd,hb⟩:=hc;unfold Ei at hex;rw[hkx]at hex;simp only[if_true,acF]at hex;obtain⟨extra,hsr,rfl⟩:=hex;unfold UH at hh;split at hh
 case h_2=>cases hh
 rename_i n p lo len cap hx;simp only[acM,agd,adE,beq_eq_false_iff_ne]at hh;rw[hx]at hold;unfold jA at hold;simp only at hold;split at hold
 case h_2=>cases hold
 rename_i nl es' cap' rows hn;split at hold
 case isFalse=>cases hold
 rename_i hes';simp only[acB]at hold;subst hold;rw[Su]at hb;unfold y9;rw[hk];simp only[hte];rw[if_neg (by rintro(q|q);exact hes q;exact q hd),hsr];simp only[hx,vY,hn,hes'.1,if_true];rw[if_neg hh.2,if_pos hh.1];simp only[Ext.all]at hb;simp only;rw[if_pos hb];exact⟨_,rfl⟩
def Zv(s:St):C->Bool
 | .pal n p lo len _=>match s.node n p with
  | some (.sl true _ _ _ rows)=>((rows.drop lo).take len).all (·.all plainCell)
  | _=>false
 | _=>false
def Bv(o:Oper):Bool:=pf o || match o.op with
 | .pick ..=>true
 | .field ..=>true
 | .index ..=>true
 | .binOp ..=>true
 | .unOp ..=>true
 | .convert ..=>true
 | .call {callee:=.builtin .max,..}=>true
 | .call {callee:=.builtin .min,..}=>true
 | _=>false
def Tz{E:Env}{o:Oper}(hq:Bv o=true){st':St}(h:exe E o st=some st'):∃c,qop E st o.op=some c/\st'=st.put o.dst c:=by
 unfold Bv at hq;rw[adJ]at hq;rcases hq with hq|hq
 .exact IE hq h
 obtain⟨dst,op,ty,pos,after,guard⟩:=o;simp only at hq;have key:exe E ⟨dst,op,ty,pos,after,guard⟩ st=dZ ⟨dst,op,ty,pos,after,guard⟩ st (qop E st op)->∃c,qop E st op=some c/\st'=st.put dst c:=by
  intro e;rw[e]at h;cases hc:qop E st op with
  | none=>rw[hc]at h;simp[dZ]at h
  | some c=>rw[hc]at h;simp only[dZ,acB]at h;exact⟨c,rfl,h.symm⟩
 split at hq;all_goals first|(cases hq;done)|skip
 all_goals
  apply key;simp only[exe,kW,kP,gh];split<;>simp_all
def Df(o:Oper):Bool:=Bv o || match o.op with
 | .slice ..=>true
 | _=>false
def NG(o:Oper):Bool:=match o.op with
 | .buildSlice ..=>true
 | _=>false
def DH(E:Env)(o:Oper)(s:St):Bool:=o.guard.isNone&&match o.op with
 | .build ..=>true
 | .buildSlice ..=>true
 | .call {callee:=.builtin .append,args,argTypes}=>match o.dst,args.toList,argTypes.toList with
  | some d,[x,y],[t,tx]=>(E.F d).isNone&&XN s (s.ev x)&& Zv s (s.ev y)&&(UH d (s.ev x)&& t == tx)
  | _,_,_=>false
 | .call {callee:=.value x,args:=_,argTypes:=_}=>match o.dst,s.ev x with
  | some d,.clo f _=>match E.L d (GB f),E.G d (GB f)with
   | none,some fs=>if fs.own.isEmpty then fs.pure else !fs.peek
   | _,_=>false
  | _,_=>false
 | .slice _ _ _ hi mx=>hi.isNone || mx.isSome
 | _=>Bv o
theorem GA.same{dst:Option Nat}{st':St}:GA dst m st w m st' w:=fun _ _ _ _ _=>⟨rfl,fun _ _=>rfl⟩
def aaP{E:Env}(hT:TOk P E)(hG:GOk P E)(H:ar X m st a w){o:Oper}{st':St}(h:exe E o st=some st')(hc:DH E o st=true){Q:Exit->Act->World->Prop}:
  o.wp P a w (fun a' w'=>∃m',ar X m' st' a' w'/\GA o.dst m st w m' st' w'/\(Df o=true->w'=w)/\(NG o=true->∀b,b<w.heap.size->w'.heap[b]?=w.heap[b]?)) Q:=by
 have quiet:(∃c,qop E st o.op=some c/\st'=st.put o.dst c)->o.wp P a w (fun a' w'=>∃m',ar X m' st' a' w'/\GA o.dst m st w m' st' w'/\(Df o=true->w'=w)/\(NG o=true->∀b,b<w.heap.size->w'.heap[b]?=w.heap[b]?)) Q:=by
  rintro⟨c,hq,rfl⟩;obtain⟨v,e1,d,e2⟩:=Qf hT H hq;exact iU e1 ⟨m,H.put o.dst e2,.same,fun _=>rfl,fun _ _ _=>rfl⟩
 unfold DH at hc;simp only[acM]at hc;obtain⟨hg,hc⟩:=hc;split at hc
 .rename_i t parts hop;refine quiet ?_;have e:exe E o st=dZ o st (qop E st o.op):=by
   simp only[exe,kW,kP,gh,hop];split<;>simp_all
  rw[e]at h;cases hq:qop E st o.op with
  | none=>rw[hq]at h;simp[dZ]at h
  | some c=>rw[hq]at h;simp only[dZ,acB]at h;exact⟨c,rfl,h.symm⟩
 .rename_i t len parts hop;have e:exe E o st=kP E o st:=by
   simp only[exe,kW,gh,hop];split<;>simp_all
  rw[e]at h;simp only[kP,hop]at h;split at h
  .rename_i d ti hd hti;obtain⟨u,w',e1,m',e2,e3,e4⟩:=HG hT H (hT t ti hti) h;refine iU (u:=u) (w':=w') ?_ ⟨m',by rw[hd];exact e2,fun n hn hnd ho _=>⟨e3 n hn (fun e=>hnd (by rw[hd,e])),fun b hb=>e4 b (H.lt ho hb)⟩,fun q=>by simp[Df,Bv,pf,hop]at q,fun _ b hb=>e4 b hb⟩;simp only[execOp,hop,Sem.run_bind,e1,Result.andThen_ok,Sem.run_pure]
  .cases h
 .rename_i args tys hop;split at hc
  case h_2=>cases hc
  rename_i d x y t0 tx0 hd hargs htys0;simp only[acM,aes,beq_iff_eq]at hc;obtain⟨⟨⟨hF,hb⟩,hs⟩,hhead,htt⟩:=hc;subst htt;have hpre:kW E o st=none:=by
   simp only[kW,hop,hd,hargs];split
   .rename_i d' s' x' t tx hdd hss htys;cases hdd;cases hss;split
    .split
     .split
      .rw[hF];simp only;unfold rb;split
       .rename_i hx _;rw[hx]at hb;simp only[XN]at hb;split
        .rename_i hr;rw[hr]at hb;simp only[decide_eq_true_eq]at hb;rw[if_neg (by omega)]
        .rfl
       .rfl
      .rfl
     .rfl
    .rfl
   .rfl
  simp only[exe,hpre]at h;split at h
  .rename_i s1 hs1;simp only[acB]at h;subst h;simp only[kP,hop,hd,hargs]at hs1;split at hs1
   case h_2=>cases hs1
   rename_i t tx hd1 hargs1 htys;split at hs1
   case h_2=>cases hs1
   rename_i ti tix hti htix;split at hs1
   case h_2=>cases hs1
   rename_i e es e' es' hk1 hk2;split at hs1
   case isFalse=>cases hs1
   rename_i he;obtain⟨rfl,rfl⟩:=he;cases hd1;cases hargs1;obtain⟨u,w',e1,m',e2,e3⟩:=Og (ty:=o.type) hT H (args:=args) (argTypes:=tys) (s:=x) (x:=y) (t:=t) (tx:=tx) (by rw[<-hargs]) (by rw[<-htys]) hti htix (by rw[hk1,hk2]) hs1;have hsrc:(jA st es (st.ev y)).isSome=true:=by
    unfold Zv at hs;split at hs
    .rename_i n p lo len cap hy;split at hs
     .rename_i nl es' cap' rows hn;have hes:es'=es:=by
       unfold y9 at hs1;rw[hk1]at hs1;simp only at hs1;split at hs1
       .split at hs1
        .cases hs1
        .split at hs1
         .rename_i hsr;rw[hy]at hsr;simp only[jA,hn]at hsr;split at hsr
          .rename_i hh;exact hh.1
          .cases hsr
         .rw[hy]at hs1;split at hs1
          .rename_i hpp;cases hpp;simp only[hn]at hs1;split at hs1
           .split at hs1
            .rename_i hh;exact hh
            .cases hs1
           .cases hs1
          .cases hs1
       .cases hs1
      rw[hy];simp only[jA,hn];rw[if_pos ⟨hes,hs⟩];rfl
     .cases hs
    .cases hs
   exact iU (u:=u) (w':=w') (by simp only[execOp,hop,resolve,Sem.run_bind,Sem.run_pure,Result.andThen_ok,invoke,builtin,e1]) ⟨m',by rw[hd];exact e2,by rw[hd];exact e3 ⟨e,es,hk1,hsrc⟩,fun q=>by simp[Df,Bv,pf,hop]at q,fun q=>by simp[NG,hop]at q⟩
  .rename_i hs1;exfalso;simp only[gh,hop,hd,hargs,htys0]at h;simp only[kP,hop,hd,hargs,htys0]at hs1;split at h
   case h_2=>cases h
   rename_i ti tix hti htix;rw[hti]at htix;cases htix;rw[hti]at hs1;simp only at hs1;split at h
   case h_2=>cases h
   rename_i e es hk;split at h
   case h_2=>cases h
   rename_i te hte;rw[hk]at hs1;simp only[and_self,if_true]at hs1;obtain⟨s1,q⟩:=VC hk hte hhead hk h;rw[q]at hs1;cases hs1
 .rename_i x args tys hop;split at hc
  case h_2=>cases hc
  rename_i d f caps hd hx;split at hc
  case h_2=>cases hc
  rename_i fs hL hfs;have e:exe E o st=kP E o st:=by
   simp only[exe,kW,gh,hop];split<;>simp_all
  rw[e]at h;simp only[kP,hop,Jt,gj,hd,hx]at h;split at h
  case isFalse=>cases h
  rename_i hdH;simp only[G8,hL,hfs]at h;have hct:gj st {callee:=.value x,args:=args,argTypes:=tys}=some (GB f,Jk f (args.toList.map st.ev) caps):=by simp only[gj,hx]
  rw[hd];by_cases ho:fs.own=[]
  .rw[if_pos (by simp[ho])]at hc;rw[if_pos ho]at h;split at h
   case h_2=>cases h
   rename_i cs hsn;rw[if_pos (.inl hc)]at h;split at h
   case h_2=>cases h
   rename_i r hr;cases h;refine Oper.wp_mono (fun a' w' h'=>?_) (Tg hG H hop hd hct hfs ho hsn (.inl hc) hr hdH);obtain⟨m',h1,h2,h3⟩:=h';exact⟨m',h1,fun n hn hnd hO _=>⟨h2 n (fun e=>hnd (by rw[e])) [],fun b hb=>h3 b (H.lt hO hb)⟩,fun q=>by simp[Df,Bv,pf,hop]at q,fun q=>by simp[NG,hop]at q⟩
  rw[if_neg (by simpa using ho)]at hc;have hp:fs.peek=false:=by simpa using hc
  rw[if_neg ho,if_neg (by simp[hp])]at h;refine Oper.wp_mono (fun a' w' h'=>?_) (LJ hG H hop hd hct hfs h);obtain⟨m',h1,h2⟩:=h';exact⟨m',h1,h2,fun q=>by simp[Df,Bv,pf,hop]at q,fun q=>by simp[NG,hop]at q⟩
 .rename_i t x lo hi mx hop;have e0:kP E o st=dZ o st (qop E st o.op):=by simp only[kP,hop]
  have p0:kW E o st=none:=by simp only[kW,hop]
  have a0:gh E o st=none:=by
   simp only[gh,hop];cases hi with
   | none=>cases lo<;>rfl
   | some hi=>cases mx with
    | none=>simp at hc
    | some mx=>cases lo<;>rfl
  simp only[exe,p0,e0,a0]at h;cases hq:qop E st o.op with
  | none=>rw[hq]at h;simp[dZ]at h
  | some c=>
   rw[hq]at h;simp only[dZ,acB]at h;exact quiet ⟨c,hq,h.symm⟩
 .exact quiet (Tz hc h)
end
section
variable {P:Program} {ops:Array Oper} {Q:Exit->Act->World->Prop}
def Vw{j:Nat}{oj:Oper}{di:Option Tmp}{v:Value}(hj:ops[j]?=some oj)
  (h1:∀d,di=some d->d∉oj.looksAt ops) (h2:∀d,di=some d->oj.dst≠some d) (hsj:∀cs b,oj.op≠.select cs b)
  (hQ:∀c a w,Q (.panic c) (a.put di v) w->Q (.panic c) a w) {Y:Act->Prop} (keep:∀a u,Y a->Y (a.put oj.dst u))
  (keepD:∀(a:Act) d,Y a->Y {a with defers:=d::a.defers}) {K:Act->World->Prop} {a:Act} {w:World} (hy:Y a) (h:wpOp P ops Q j K (a.put di v) w):
  wpOp P ops Q j (fun a' w'=>Y a'/\K (a'.put di v) w') a w:=by
 unfold wpOp at *;simp only[hj]at *;rw[wanted_put oj a di v h1]at h;split
 .rename_i hw;simp only[hw,if_true]at h;rcases h with h|⟨hasks,hlets⟩
  case inr=>exact .inr ⟨by unfold Oper.asks at *;rw[execOp_put oj hsj a di v h1]at hasks;exact hasks,hlets⟩
  refine .inl ?_;unfold Oper.wp at *;rw[execOp_put oj hsj a di v h1]at h;generalize (execOp a.eval oj).run P w=r at *;cases r with
  | ok n w'=>
   cases n<;>simp only[Oper.upon]at h ⊢
   case value u=>exact⟨keep a u hy,by rw[<-Act.put_comm a v u h2];exact h⟩
   case skip=>exact⟨keep a _ hy,by rw[<-Act.put_comm a v undef h2];exact h⟩
   case defer d=>
    refine⟨keep _ _ (keepD a d hy),?_⟩;rw[<-Act.put_comm _ v undef h2,<-Act.put_defers];exact h
   case enter f args=>
    refine Calls.mono h fun e w'' he=>?_;cases e with
    | returned u=>exact⟨keep a u hy,by rw[<-Act.put_comm a v u h2];exact he⟩
    | panicked c=>exact hQ _ _ _ he
    | outgrown=>exact he
   case row row args=>exact Rows.mono h fun u w'' he=>⟨keep a u hy,by rw[<-Act.put_comm a v u h2];exact he⟩
  | halt x w'=>
   cases x<;>simp only[Oper.upon]at h ⊢
   case panic u=>exact hQ _ _ _ h
 .rename_i hw;simp only[hw]at h;exact⟨keep a _ hy,by rw[<-Act.put_comm a v undef h2];exact h⟩
def ue(P:Program)(ops:Array Oper)(Q:Exit->Act->World->Prop)(R:Nat->World->World->Prop):Nat->Array Bool->Act->World->Prop
 | 0,listed,a,w=>Region.ready .any ops listed=[]/\Q .normal a w
 | fuel+1,listed,a,w=>(Region.ready .any ops listed=[]->Q .normal a w)∧
  ∀i∈Region.ready .any ops listed,wpOp P ops Q i (fun a' w'=>R i w w'/\ue P ops Q R fuel (listed.setIfInBounds i true) a' w') a w
variable {R:Nat->World->World->Prop}
def So:∀(fuel:Nat) (listed:Array Bool) (a:Act) (w:World),ue P ops Q R fuel listed a w->wpAny P .any ops Q fuel listed a w:=by
 intro fuel
 induction fuel with
 | zero=>intro listed a w h;exact h
 | succ fuel ih=>intro listed a w h;exact⟨h.1,fun i hi=>wpOp_mono (fun a' w' h'=>ih _ _ _ h'.2) (h.2 i hi)⟩
def Gc(ops:Array Oper)(listed:Array Bool):Prop:=∀i o e,listed.getD i false=true->ops[i]?=some o->e∈o.after->Region.binds .any e=true->listed.getD e.on false=true
def Gc.ready{listed:Array Bool}{i:Nat}(h:Gc ops listed)(hi:i∈Region.ready .any ops listed):Gc ops (listed.setIfInBounds i true):=by
 obtain⟨_,o,ho,hall⟩:=mem_ready.1 hi;intro k ok e hk hok he hb;by_cases e1:i=k
 .subst e1;rw[ho]at hok;cases hok;exact getD_set_true (hall e he hb)
 .rw[getD_set_ne false e1]at hk;exact getD_set_true (h k ok e hk hok he hb)
def Kq{o:Oper}{f:Nat->Option Bool}(h:o.guard=none):Region.wanted o f=true:=by
 simp[Region.wanted,h]
def PD{i:Nat}{oi:Oper}{v:Value}(hi:ops[i]?=some oi)(hgi:oi.guard=none)(hsel:∀(j:Nat) (o:Oper) cs b,ops[j]?=some o->o.op≠.select cs b)
  (hQ:∀c a w,Q (.panic c) (a.put oi.dst v) w->Q (.panic c) a w) (hR0:∀w,R i w w) {Sx:World->Prop}
  (hS:∀listed j w w',Gc ops listed->listed.getD i true=false->j∈Region.ready .any ops listed->j≠i->R j w w'->Sx w->Sx w'):
  ∀(fuel:Nat) (listed:Array Bool) (a:Act) (w:World),Gc ops listed ->
   (∀j oj,ops[j]?=some oj->j≠i->listed.getD j true=false->(∀e∈oj.after,Region.binds .any e=true->e.on≠i)->oi.apart ops oj=true) ->
   i∈Region.ready .any ops listed->Sx w->(∀w,Sx w->(execOp a.eval oi).run P w=.ok (.value v) w) ->
   ue P ops Q R fuel (listed.setIfInBounds i true) (a.put oi.dst v) w->ue P ops Q R (fuel+1) listed a w:=by
 have now:∀{fuel:Nat} {listed:Array Bool} {a:Act} {w:World},Sx w->(∀w,Sx w->(execOp a.eval oi).run P w=.ok (.value v) w)->ue P ops Q R fuel (listed.setIfInBounds i true) (a.put oi.dst v) w ->
   wpOp P ops Q i (fun a' w'=>R i w w'/\ue P ops Q R fuel (listed.setIfInBounds i true) a' w') a w:=by
  intro fuel listed a w hs hy H;unfold wpOp;simp only[hi];rw[if_pos (Kq hgi)];simp only[Oper.wp,hy w hs,Oper.upon];exact .inl ⟨hR0 w,H⟩
 intro fuel
 induction fuel with
 | zero=>
  intro listed a w hd _ hr hs hy H;refine⟨fun h=>(by rw[h]at hr;cases hr),fun j hj=>?_⟩;by_cases hji:j=i
  .subst hji;exact now hs hy H
  .have:=ready_mono hj hji;rw[H.1]at this;cases this
 | succ fuel ih=>
  intro listed a w hd hfree hr hs hy H;refine⟨fun h=>(by rw[h]at hr;cases hr),fun j hj=>?_⟩;by_cases hji:j=i
  .subst hji;exact now hs hy H
  .have h1:=H.2 j (ready_mono hj hji);obtain⟨hjun,oj,hoj,hall⟩:=mem_ready.1 hj;have hiun:=(mem_ready.1 hr).1;have hnot:∀e∈oj.after,Region.binds .any e=true->e.on≠i:=fun e he hb heq=>by
    have h1:=hall e he hb;rw[heq]at h1;rw[mK h1]at hiun;cases hiun
   have hap:=hfree j oj hoj hji hjun hnot;obtain⟨p1,p2,p3⟩:=Oper.apart_spec hap;have h2:=Vw (Y:=fun a=>∀w,Sx w->(execOp a.eval oi).run P w=.ok (.value v) w) hoj p1 p2 (fun cs b=>hsel j oj cs b hoj) hQ
    (fun a u hy w hs=>by rw[execOp_put oi (fun cs b=>hsel i oi cs b hi) a oj.dst u p3];exact hy w hs) (fun a d hy=>hy) hy h1
   have hfree':∀k ok,ops[k]?=some ok->k≠i->(listed.setIfInBounds j true).getD k true=false ->
     (∀e∈ok.after,Region.binds .any e=true->e.on≠i)->oi.apart ops ok=true:=fun k ok hk hki hun hno=>by
    refine hfree k ok hk hki ?_ hno;by_cases hjk:j=k
    .subst hjk;exact hjun
    .rw[getD_set_ne true hjk]at hun;exact hun
   refine wpOp_mono (fun a' w' h3=>⟨h3.2.1,ih (listed.setIfInBounds j true) a' w' (hd.ready hj) hfree' (ready_mono hr (afD hji)) (hS listed j w w' hd hiun hj hji h3.2.1 hs) h3.1 ?_⟩) h2;rw[Array.setIfInBounds_comm _ _ hji];exact h3.2.2
@[go_sem] theorem ab2{k:Nat}:(∀c:Nat,c∈(some k:Option Nat)->k+1<=c)=False:=by
 simp only[eq_iff_iff,iff_false];intro h;have:=h k rfl;omega
def FB(ops:Array Oper):List Nat->Array Bool->Bool
 | [],listed=>(Region.ready .any ops listed).isEmpty
 | c::l,listed=>(Region.ready .any ops listed == [c])&& FB ops l (listed.setIfInBounds c true)
def Gm(ops:Array Oper)(C2:List Nat):Nat->List (List Nat)->Array Bool->Bool
 | 0,Os,listed=>!Os.isEmpty &&(Os.all (·.isEmpty)&& FB ops C2 listed)
 | n+1,Os,listed=>!Os.isEmpty &&(!(Region.ready .any ops listed).isEmpty &&(Region.ready .any ops listed).all fun i=>Gm ops C2 n ((Os.filter fun o=>o.head? == some i).map List.tail) (listed.setIfInBounds i true))
def DI(ops:Array Oper)(j:Nat):Bool:=match ops[j]? with
 | some o=>Df o
 | none=>false
def PX(ops:Array Oper)(j:Nat):Bool:=match ops[j]? with
 | some o=>NG o
 | none=>false
def Tm(ops:Array Oper)(C:List Nat)(i:Nat):Bool:=C.all fun j=>(DI ops j || PX ops j) || iR ops ops.size i j
def Pv(ops:Array Oper)(C:List Nat)(i:Nat):Bool:=C.all fun j=>DI ops j || iR ops ops.size i j
def XM(ops:Array Oper)(C:List Nat)(i:Nat):Bool:=C.all fun j=>iR ops ops.size i j
def JC(ops:Array Oper)(C1:List Nat)(O2:List (List Nat))(C2:List Nat):List Nat->Array Bool->Bool
 | [],listed=>Gm ops C2 C1.length (C1::O2) listed
 | i::T,listed=>(match ops[i]? with
  | some o=>pf o &&((Region.ready .any ops listed).contains i &&(Region.free .any ops listed i &&((!(RD o) || XM ops C2 i)&&(i::T).all fun k=>match ops[k]? with
   | some ok=>match ok.dst with
    | some d=>!((o.looksAt ops).contains d)
    | none=>true
   | none=>false)))
  | none=>false)&& JC ops C1 O2 C2 T (listed.setIfInBounds i true)
def XA(ops:Array Oper)(T C1:List Nat)(O2:List (List Nat))(C2:List Nat):Bool:=
 Region.noSelect ops &&(ops.all (·.guard.isNone)&&(T.length+(C1.length+C2.length)== ops.size &&
  ((List.range ops.size).all (fun j=>T.contains j ||(C1.contains j || C2.contains j))&&((C1++C2).all (fun j=>!(T.contains j))&&(C2.all (fun j=>!(C1.contains j))&&(O2.all (fun o=>o.all fun j=>C1.contains j)&& JC ops C1 O2 C2 T (Array.replicate ops.size false)))))))
def IU(V:List Nat)(s:St):Bool:=V.all fun n=>(s.roots n).isOwn
def WE(ops:Array Oper)(T C1 V:List Nat)(s:St):Bool:=
 IU V s &&(V.all (fun n=>Nat.blt n H0&&C1.all fun j=>match ops[j]? with|some o=>o.dst != some n|none=>false)&&
  T.all fun i=>match ops[i]? with
   | some o=>!(RD o) ||(Pv ops C1 i || match o.op with
    | .load _ x=>match s.ev x with
     | .pref n p _ _=>Tm ops C1 i ||(p.isEmpty&&V.contains n)
     | _=>false
    | _=>false)
   | none=>false)
def CE(E:Env)(ops:Array Oper)(V:List Nat):List Nat->St->St->Prop
 | [],s,sC=>aX s sC
 | i::l,s,sC=>∃o s',ops[i]?=some o/\DH E o s=true/\exe E o s=some s'/\IU V s'=true/\CE E ops V l s' sC
def IC(E:Env)(ops:Array Oper)(V:List Nat):List (List Nat)->St->St->Prop
 | [],_,_=>True
 | o::os,s,sC=>CE E ops V o s sC/\IC E ops V os s sC
def Hop(E:Env)(ops:Array Oper)(V:List Nat)(O2:List (List Nat))(C2:List Nat)(Z:St->Prop)(s0:St):List Nat->St->Prop
 | [],s=>∃sC,aX s sC/\IC E ops V O2 s0 sC/\RX E false (kO ops) (jY ops) 0 (lM ops C2) sC Z
 | i::l,s=>∃o s',ops[i]?=some o/\DH E o s=true/\exe E o s=some s'/\IU V s'=true/\Hop E ops V O2 C2 Z s0 l s'
def Yq{E:Env}{V C2:List Nat}{Z:St->Prop}{s0 s:St}(h:RX E false (kO ops) (jY ops) 0 (lM ops C2) s Z):Hop E ops V [] C2 Z s0 [] s:=⟨s,fun _ _ _ h=>h,trivial,h⟩
def WD{E:Env}{V C2:List Nat}{O2:List (List Nat)}{Z:St->Prop}{s0 s sC:St}(hw:aX s sC)(h1:IC E ops V O2 s0 sC)(h:RX E false (kO ops) (jY ops) 0 (lM ops C2) sC Z):Hop E ops V O2 C2 Z s0 [] s:=⟨sC,hw,h1,h⟩
def Qo{E:Env}{s:St}{i:Nat}{Y:St->Prop}(h1:(match ops[i]? with|some o=>DH E o s|none=>false)=true)
  (h2:RX E false (kO ops) (jY ops) 0 (lM ops [i]) s Y):∃o s',ops[i]?=some o/\DH E o s=true/\exe E o s=some s'/\Y s':=by
 cases ho:ops[i]? with
 | none=>rw[ho]at h1;cases h1
 | some o=>
  rw[ho]at h1;simp only[lM,ho]at h2;obtain⟨s',g1,g2⟩:=MB _ _ _ _ h2;have hg:o.guard=none:=by
   simp only[DH,acM,aes]at h1;exact h1.1
  simp only[rF,eS,hg]at g1;refine⟨o,s',rfl,h1,?_,g2⟩;split at g1
  .rename_i s1 hs1;rw[hs1];exact g1
  .cases g1
def KJ{E:Env}{V C2:List Nat}{O2:List (List Nat)}{Z:St->Prop}{s0 s:St}{i:Nat}{l:List Nat}(h1:(match ops[i]? with|some o=>DH E o s|none=>false)=true)
  (h2:∀Y:St->Prop,(∀s',IU V s'=true->Hop E ops V O2 C2 Z s0 l s'->Y s')->RX E false (kO ops) (jY ops) 0 (lM ops [i]) s Y):Hop E ops V O2 C2 Z s0 (i::l) s:=by
 obtain⟨o,s',a,b,c,d,e⟩:=Qo h1 (h2 (fun s'=>IU V s'=true/\Hop E ops V O2 C2 Z s0 l s') fun s' a b=>⟨a,b⟩);exact⟨o,s',a,b,c,d,e⟩
def Mp{E:Env}{V:List Nat}{s sC:St}{i:Nat}{l:List Nat}(h1:(match ops[i]? with|some o=>DH E o s|none=>false)=true)
  (h2:∀Y:St->Prop,(∀s',IU V s'=true->CE E ops V l s' sC->Y s')->RX E false (kO ops) (jY ops) 0 (lM ops [i]) s Y):CE E ops V (i::l) s sC:=by
 obtain⟨o,s',a,b,c,d,e⟩:=Qo h1 (h2 (fun s'=>IU V s'=true/\CE E ops V l s' sC) fun s' a b=>⟨a,b⟩);exact⟨o,s',a,b,c,d,e⟩
def UX{E:Env}{V:List Nat}{s sC:St}(h:aX s sC):CE E ops V [] s sC:=h
def Vz{E:Env}{V C2:List Nat}{O2:List (List Nat)}{Z:St->Prop}{s0:St}:∀(l:List Nat) {s:St},Hop E ops V O2 C2 Z s0 l s->∃sC,CE E ops V l s sC/\IC E ops V O2 s0 sC/\RX E false (kO ops) (jY ops) 0 (lM ops C2) sC Z
 | [],s,⟨sC,hw,h1,h2⟩=>⟨sC,hw,h1,h2⟩
 | i::l,s,⟨o,s',a,b,c,d,e⟩=>by
  obtain⟨sC,e1,e2,e3⟩:=Vz l e;exact⟨sC,⟨o,s',a,b,c,d,e1⟩,e2,e3⟩
def Mh{E:Env}{V:List Nat}{s sC:St}:∀{O2:List (List Nat)},IC E ops V O2 s sC->∀o∈O2,CE E ops V o s sC
 | [],_,o,ho=>by cases ho
 | o::os,h,q,hq=>by
  rcases ac6.1 hq with rfl|hq
  .exact h.1
  .exact Mh h.2 q hq
section
variable {E:Env} {X:Ctx}
def Jl{o:Oper}{l:List Oper}{s sf:St}(h:rF E ops (o::l) s=some sf):∃s1,eS E ops o s=some s1/\rF E ops l s1=some sf:=by
 simp only[rF]at h;split at h
 .rename_i s1 h1;exact⟨s1,h1,h⟩
 .cases h
def ZC(hT:TOk P E)(hG:GOk P E){sf:St}(hq:∀a w,Inv X sf a w->Q .normal a w):∀(C2:List Nat) {listed:Array Bool} {st:St} {a:Act} {w:World},
  (∀j∈C2,∀w w',R j w w')->Inv X st a w->rF E ops (lM ops C2) st=some sf->FB ops C2 listed=true->ue P ops Q R C2.length listed a w:=by
 intro C2
 induction C2 with
 | nil=>
  intro listed st a w _ H h hc;simp only[FB,afp]at hc;simp only[lM,rF,acB]at h;subst h;exact⟨hc,hq a w H⟩
 | cons c l ih=>
  intro listed st a w hR H h hc;simp only[FB,acM,beq_iff_eq]at hc;have hm:c∈Region.ready .any ops listed:=by rw[hc.1];simp
  obtain⟨_,o,ho,_⟩:=mem_ready.1 hm;simp only[lM,ho]at h;obtain⟨s1,h1,h2⟩:=Jl h;refine⟨fun hr=>(by rw[hr]at hm;cases hm),fun i hi=>?_⟩;rw[hc.1]at hi;simp only[acW]at hi;subst hi;exact F4 hT hG H ho h1 fun a' w' H'=>⟨hR i (by simp) _ _,ih (fun j hj=>hR j (by simp[hj])) H' h2 hc.2⟩
def I9{c:C}(h:c.isOwn=true):ak c []:=by simp[ak,C.at,h]
def Z8(hT:TOk P E)(hG:GOk P E){V C1 C2:List Nat}{sC:St}{Bs:Nat->Prop}(hR:∀j∈C1,∀w w':World,(∀b,Bs b->w'.heap[b]?=w.heap[b]?)->(DI ops j=true->w'=w)->(PX ops j=true->∀b,b<w.heap.size->w'.heap[b]?=w.heap[b]?)->R j w w')(hd:∀j∈C1,∀o,ops[j]?=some o->∀n∈V,o.dst≠some n)(hV:∀n∈V,n<H0)
  (hend:∀listed a w,Inv X sC a w->FB ops C2 listed=true->ue P ops Q R C2.length listed a w):∀(n:Nat) (Os:List (List Nat)) {listed:Array Bool} {m:Nat->aq->Value} {st:St} {a:Act} {w:World},
  (∀o∈Os,∀j∈o,j∈C1)->ar X m st a w->IU V st=true->(∀b,Bs b->∃n∈V,blk (m n [])=some b)->(∀o∈Os,CE E ops V o st sC)->Gm ops C2 n Os listed=true->ue P ops Q R (n+C2.length) listed a w:=by
 intro n
 induction n with
 | zero=>
  intro Os listed m st a w _ H _ _ h hc;simp only[Gm,acM,adE,afU]at hc;obtain⟨h1,h2,h3⟩:=hc;obtain⟨o,ho⟩:=afc _ h1;have he:o=[]:=by simpa using acJ.1 h2 o ho
  have:=h o ho;rw[he]at this;rw[adm];exact hend listed a w (this X a w ⟨m,H⟩) h3
 | succ n ih=>
  intro Os listed m st a w hO H hown hb h hc;simp only[Gm,acM,adE,afU]at hc;obtain⟨_,hne,hall⟩:=hc;rw[show n+1+C2.length=n+C2.length+1 from by omega];refine⟨fun hr=>absurd hr hne,fun i hi=>?_⟩;have hsub:=acJ.1 hall i hi;have hOi:∀o∈(Os.filter fun o=>o.head? == some i).map List.tail,(i::o)∈Os:=by
   intro o ho;simp only[ade,aee,beq_iff_eq]at ho;obtain⟨q,⟨h1,h2⟩,rfl⟩:=ho;cases q with
   | nil=>cases h2
   | cons x q=>
    simp only[List.head?_cons,acB]at h2;subst h2;exact h1
  have hex:∃o,o∈(Os.filter fun o=>o.head? == some i).map List.tail:=by
   refine afc _ fun e=>?_;rw[e]at hsub;cases n<;>simp[Gm]at hsub
  obtain⟨o0,ho0⟩:=hex;obtain⟨o,s',ho,hca,he,hown',_⟩:=h _ (hOi o0 ho0);have hg:o.guard=none:=by
   simp only[DH,acM,aes]at hca;exact hca.1
  have hiC:i∈C1:=hO _ (hOi o0 ho0) i (by simp);unfold wpOp;simp only[ho];rw[if_pos (Kq hg)];refine .inl (Oper.wp_mono (fun a' w' h'=>?_) (aaP hT hG H he hca));obtain⟨m',H',hk,hstill,hnew⟩:=h';have hkeep:∀n∈V,m' n []=m n []/\∀b,blk (m n [])=some b->w'.heap[b]?=w.heap[b]?:=fun n hn=>
   hk n (hV n hn) (hd i hiC o ho n hn) (I9 (acJ.1 hown n hn)) (I9 (acJ.1 hown' n hn))
  refine⟨hR i hiC _ _ (fun b hB=>?_) (fun q=>hstill (by simpa only[DI,ho]using q)) (fun q=>hnew (by simpa only[PX,ho]using q)),ih _ (fun q hq j hj=>hO _ (hOi q hq) j (by simp[hj])) H' hown' (fun b hB=>?_) (fun q hq=>?_) hsub⟩
  .obtain⟨n,hn,e⟩:=hb b hB;exact(hkeep n hn).2 b e
  .obtain⟨n,hn,e⟩:=hb b hB;exact⟨n,hn,by rw[(hkeep n hn).1];exact e⟩
  .obtain⟨o2,s2,g1,_,g3,_,g5⟩:=h _ (hOi q hq);rw[ho]at g1;cases g1;rw[he]at g3;cases g3;exact g5
def Od{o:Oper}(hg:o.guard=none){st st':St}(h:eS E ops o st=some st'):exe E o st=some st':=by
 simpa[eS,hg]using h
def Dm{o:Oper}(h:pf o=true):o.guard=none:=by
 simp only[pf,acM,aes]at h;exact h.1
theorem VF{st:St}{d:Option Tmp}{c:C}{x:Operand}(h:∀t,d=some t->x≠.tmp t):(st.put d c).ev x=st.ev x:=by
 cases d with
 | none=>rfl
 | some d=>
  cases x with
  | tmp t=>
   have:d≠t:=fun e=>h d rfl (by rw[e]);simp[St.ev,St.put,aef this]
  | _=>rfl
def Ot{o:Oper}{x:Operand}(hx:x∈o.op.operands){t:Tmp}(e:x=.tmp t):t∈o.looksAt ops:=by
 subst e;exact afx _ (afI.2 ⟨.tmp t,by simpa using hx,rfl⟩)
def Wl:∀(T:List Nat) {st sT:St} {o:Oper},T.all (fun k=>match ops[k]? with|some ok=>pf ok &&(match ok.dst with|some d=>!((o.looksAt ops).contains d)|none=>true)|none=>false)=true ->
  rF E ops (lM ops T) st=some sT->sT.roots=st.roots/\∀x∈o.op.operands,sT.ev x=st.ev x:=by
 intro T
 induction T with
 | nil=>
  intro st sT o _ h;simp only[lM,rF,acB]at h;subst h;exact⟨rfl,fun _ _=>rfl⟩
 | cons k T ih=>
  intro st sT o hall h;simp only[ae5,acM]at hall;obtain⟨h1,h2⟩:=hall;split at h1
  case h_2=>cases h1
  rename_i ok hok;simp only[acM]at h1;simp only[lM,hok]at h;obtain⟨s1,g1,g2⟩:=Jl h;obtain⟨c,_,rfl⟩:=IE h1.1 (Od (Dm h1.1) g1);obtain⟨e1,e2⟩:=ih h2 g2;refine⟨e1.trans (by cases ok.dst<;>rfl),fun x hx=>(e2 x hx).trans (VF fun t ht e=>?_)⟩
  have:=h1.2;rw[ht]at this;simp only[adE,<-aei]at this;exact this (by simpa using Ot hx e)
def Sq{C1 C2:List Nat}{O2:List (List Nat)}:∀(T:List Nat) {listed:Array Bool},JC ops C1 O2 C2 T listed=true->∀i∈T,∃o,ops[i]?=some o/\pf o=true:=by
 intro T
 induction T with
 | nil=>intro _ _ i hi;cases hi
 | cons k T ih=>
  intro listed h i hi;simp only[JC,acM]at h;rcases ac6.1 hi with rfl|hi
  .have h1:=h.1;split at h1
   .rename_i o ho;simp only[acM]at h1;exact⟨o,ho,h1.1⟩
   .cases h1
  .exact ih h.2 i hi
def Z9(hT:TOk P E){T0 C1 C2 V:List Nat}{O2:List (List Nat)}(hsel:Region.noSelect ops=true)(hcov:(List.range ops.size).all (fun j=>T0.contains j ||(C1.contains j || C2.contains j))=true)
  (hdis:(C1++C2).all (fun j=>!(T0.contains j))=true) (hQ:∀c a w,¬Q (.panic c) a w) {m:Nat->aq->Value} {sT:St} {w:World} {fuel:Nat} {Bs:Nat->Prop}
  (hB:∀n∈V,∀b,blk (m n [])=some b->Bs b)
  (hR:∀j w w',R j w w'↔(if T0.contains j=true then w'=w else if C1.contains j=true then(∀b,Bs b->w'.heap[b]?=w.heap[b]?)/\(DI ops j=true->w'=w)/\(PX ops j=true->∀b,b<w.heap.size->w'.heap[b]?=w.heap[b]?)else True)):∀(T:List Nat) {listed:Array Bool} {st:St} {a:Act},
  (∀i∈T,i∈T0)->Gc ops listed->ar X m st a w->rF E ops (lM ops T) st=some sT->JC ops C1 O2 C2 T listed=true ->
  (T.all fun i=>match ops[i]? with
   | some o=>!(RD o) ||(Pv ops C1 i || match o.op with
    | .load _ x=>match sT.ev x with
     | .pref n p _ _=>Tm ops C1 i ||(p.isEmpty&&V.contains n)
     | _=>false
    | _=>false)
   | none=>false)=true ->
  (∀listed a',ar X m sT a' w->Gm ops C2 C1.length (C1::O2) listed=true->ue P ops Q R fuel listed a' w)->ue P ops Q R (T.length+fuel) listed a w:=by
 intro T
 induction T with
 | nil=>
  intro listed st a _ _ H h hc _ hk;simp only[lM,rF,acB]at h;subst h;simpa using hk listed a H hc
 | cons i T ih=>
  intro listed st a hT0 hd H h hc hs hk;have hq:=Sq (i::T) hc;simp only[JC,acM]at hc;obtain⟨hc1,hc2⟩:=hc;split at hc1
  case h_2=>cases hc1
  rename_i o ho;simp only[acM]at hc1;obtain⟨hqt,hrd,hfr,hld,hno⟩:=hc1;simp only[ae5,acM,ho]at hs;obtain⟨hs1,hs2⟩:=hs;simp only[lM,ho]at h;obtain⟨s1,g1,g2⟩:=Jl h;obtain⟨c,gq,rfl⟩:=IE hqt (Od (Dm hqt) g1);obtain⟨v,e1,e2⟩:=Qf hT H gq;have hrd:i∈Region.ready .any ops listed:=by simpa using hrd
  obtain⟨dd,e2⟩:=e2;have next:=ih (fun j hj=>hT0 j (by simp[hj])) (hd.ready hrd) (H.put o.dst e2) g2 hc2 hs2 hk
  rw[show(i::T).length+fuel=T.length+fuel+1 from by simp;omega];have hiT:T0.contains i=true:=by simpa using hT0 i (by simp)
  have hready:∀(l:Array Bool) j,Gc ops l->l.getD i true=false->j∈Region.ready .any ops l->Pv ops C1 i=true->C1.contains j=true->DI ops j=true:=by
   intro l j hdl hun hj hf hcj;have hor:=acJ.1 hf j (by simpa using hcj);rw[adJ]at hor;rcases hor with hor|hor
   .exact hor
   .exfalso;obtain⟨_,oj,hoj,hall⟩:=mem_ready.1 hj;rw[mK (vZ hdl ops.size i j oj hoj hall hor)]at hun;cases hun
  have hready2:∀(l:Array Bool) j,Gc ops l->l.getD i true=false->j∈Region.ready .any ops l->XM ops C2 i=true->C2.contains j=false:=by
   intro l j hdl hun hj hf;cases hcj:C2.contains j with
   | false=>rfl
   | true=>
    exfalso;have hor:iR ops ops.size i j=true:=acJ.1 hf j (by simpa using hcj);obtain⟨_,oj,hoj,hall⟩:=mem_ready.1 hj;rw[mK (vZ hdl ops.size i j oj hoj hall hor)]at hun;cases hun
  have hcover:∀(l:Array Bool) j,j∈Region.ready .any ops l->T0.contains j=false->C1.contains j=false->C2.contains j=true:=by
   intro l j hj h1 h2;obtain⟨_,oj,hoj,_⟩:=mem_ready.1 hj;have:=acJ.1 hcov j (by simpa using(ac0.1 hoj).1);simpa only[h1,h2,ado]using this
  have first:∀(Sx:World->Prop),(∀listed j w w',Gc ops listed->listed.getD i true=false->j∈Region.ready .any ops listed->j≠i->R j w w'->Sx w->Sx w')->Sx w ->
    (∀w,Sx w->(execOp a.eval o).run P w=.ok (.value v) w)->ue P ops Q R (T.length+fuel+1) listed a w:=fun Sx h1 h2 h3=>
   PD ho (Dm hqt) (Region.noSelect_spec hsel) (fun c a w hp=>(hQ c _ _ hp).elim) (fun w=>(hR i w w).2 (by rw[if_pos hiT])) h1 _ _ _ _ hd (Region.free_spec ho hfr) hrd h2 h3 next
  cases hl:RD o with
  | false=>exact first (fun _=>True) (fun _ _ _ _ _ _ _ _ _ _=>trivial) trivial (fun w2 _=>UW hT H hqt hl gq e1 w2)
  | true=>
   simp only[hl,ac5,ado]at hld hs1;cases hf:Pv ops C1 i with
   | true=>
    refine first (fun w2=>w2=w) ?_ rfl (fun w2 e=>by rw[e];exact e1)
    intro l j w1 w2 hdl hun hj hji hRj hw;have h2:=hready2 l j hdl hun hj hld;cases h0:T0.contains j with
    | true=>rw[hR,if_pos h0]at hRj;exact hRj.trans hw
    | false=>
     cases h1:C1.contains j with
     | false=>rw[hcover l j hj h0 h1]at h2;cases h2
     | true=>
      rw[hR,if_neg (by rw[h0];simp),if_pos h1]at hRj;exact(hRj.2.1 (hready l j hdl hun hj hf h1)).trans hw
   | false=>
    simp only[hf,ado]at hs1;split at hs1
    case h_2=>cases hs1
    rename_i t x hop;split at hs1
    case h_2=>cases hs1
    rename_i n pp ii jj hev;have hquiet:T.all (fun k=>match ops[k]? with|some ok=>pf ok &&(match ok.dst with|some d=>!((o.looksAt ops).contains d)|none=>true)|none=>false)=true:=by
     rw[acJ]at hno ⊢;intro k hk';have h1:=hno k (by simp[hk']);obtain⟨ok,hok,hqk⟩:=hq k (by simp[hk']);rw[hok]at h1 ⊢;simp only at h1 ⊢;rw[hqk];simpa using h1
    have hnoself:∀tt,o.dst=some tt->x≠.tmp tt:=by
     intro tt htt e;have h1:=acJ.1 hno i (by simp);rw[ho]at h1;simp only[htt,adE,<-aei]at h1;exact h1 (by simpa using Ot (by rw[hop];simp[Op.operands]) e)
    obtain⟨_,q2⟩:=Wl T hquiet g2;have hevx:st.ev x=.pref n pp ii jj:=by
     rw[<-VF (d:=o.dst) (c:=c) hnoself,<-q2 x (by rw[hop];simp[Op.operands])];exact hev
    simp only[hop,qop]at gq;obtain⟨ti,p1,p2⟩:=acG.1 gq;rw[hevx]at p2;have hx:=bm H x;rw[hevx]at hx;have e1':(Instr.loadAt t (a.eval x)).run P w=.ok v w:=by
     simp only[execOp,hop,Sem.run_bind]at e1;cases hr:(Instr.loadAt t (a.eval x)).run P w with
     | ok v' w'=>
      rw[hr]at e1;simp only[Result.andThen_ok,Sem.run_pure,Result.ok.injEq,Next.value.injEq]at e1;rw[e1.1,e1.2]
     | halt e w'=>rw[hr]at e1;cases e1
    have one:∀b:Nat,(∀w2:World,w2.heap[b]?=w.heap[b]?->(Instr.loadAt t (a.eval x)).run P w2=.ok v w2)->∀w2:World,w2.heap[b]?=w.heap[b]?->(execOp a.eval o).run P w2=.ok (.value v) w2:=by
     intro b b3 w2 hw2;simp only[execOp,hop,Sem.run_bind,b3 w2 hw2,Result.andThen_ok,Sem.run_pure]
    cases hN:Tm ops C1 i with
    | true=>
     obtain⟨b,y,b1,b3⟩:=Uo hT H (hT t ti p1) hx p2 e1';refine first (fun w2=>w2.heap[b]?=w.heap[b]?) ?_ rfl (one b b3)
     intro l j w1 w2 hdl hun hj hji hRj hw;have h2:=hready2 l j hdl hun hj hld;rw[hR]at hRj;cases h0:T0.contains j with
     | true=>rw[if_pos h0]at hRj;rw[hRj];exact hw
     | false=>
      rw[if_neg (by rw[h0];simp)]at hRj;cases h1:C1.contains j with
      | false=>rw[hcover l j hj h0 h1]at h2;cases h2
      | true=>
       rw[if_pos h1]at hRj;have hor:=acJ.1 hN j (by simpa using h1);rw[adJ,adJ]at hor;rcases hor with(hor|hor)|hor
       .rw[hRj.2.1 hor];exact hw
       .refine(hRj.2.2 hor b ?_).trans hw;rw[b1]at hw;exact(ac0.1 hw).1
       .exfalso;obtain⟨_,oj,hoj,hall⟩:=mem_ready.1 hj;rw[mK (vZ hdl ops.size i j oj hoj hall hor)]at hun;cases hun
    | false=>
     simp only[hN,ado,acM,afp]at hs1;obtain⟨hpp,hs1⟩:=hs1;subst hpp;obtain⟨b,b1,_,b3⟩:=TT hT H (hT t ti p1) hx p2 e1';refine first (fun w2=>w2.heap[b]?=w.heap[b]?) ?_ rfl (one b b3)
     intro l j w1 w2 hdl hun hj hji hRj hw;have h2:=hready2 l j hdl hun hj hld;rw[hR]at hRj;cases h0:T0.contains j with
     | true=>rw[if_pos h0]at hRj;rw[hRj];exact hw
     | false=>
      rw[if_neg (by rw[h0];simp)]at hRj;cases h1:C1.contains j with
      | true=>rw[if_pos h1]at hRj;exact(hRj.1 b (hB n (by simpa using hs1) b b1)).trans hw
      | false=>rw[hcover l j hj h0 h1]at h2;cases h2
variable {st:St} {K:List Fm}
def LV{Q:Exit->St->Prop}{id:Nat}{ops:Array Oper}(T C1:List Nat)(O2:List (List Nat))(C2 V:List Nat)(hc:XA ops T C1 O2 C2=true)
  (h:∀Z:St->Prop,(∀s,ap E Q K .normal s->Z s)->∀Y:St->Prop,(∀s,WE ops T C1 V s=true->Hop E ops V O2 C2 Z s C1 s->Y s)->RX E false (kO ops) (jY ops) 0 (lM ops T) st Y):Wk E (.region id ops true) (ap E Q K) st:=by
 intro P hT hG hm hco X a w H ts hk;obtain⟨m,H⟩:=H;obtain⟨sT,h1,h2,h3⟩:=MB _ _ _ _ (h (fun s=>ap E Q K .normal s) (fun _ h=>h) (fun s=>WE ops T C1 V s=true/\Hop E ops V O2 C2 (fun s=>ap E Q K .normal s) s C1 s) fun _ a b=>⟨a,b⟩);simp only[XA,acM,beq_iff_eq]at hc;obtain⟨c1,c2,c3,c4,c5,c6,c8,c7⟩:=hc;simp only[WE,acM]at h2;obtain⟨k1,k2,k3⟩:=h2;rw[acJ]at k2;refine wp_mono (wp_region_any hm (ML (Q:=fun e a' w'=>e=.normal/\∃s,ap E Q K .normal s/\Inv X s a' w') hk _ _ _ _ (.refl _ _) (So
  (R:=fun j w w'=>if T.contains j=true then w'=w else if C1.contains j=true then(∀b,(∃n∈V,blk (m n [])=some b)->w'.heap[b]?=w.heap[b]?)/\(DI ops j=true->w'=w)/\(PX ops j=true->∀b,b<w.heap.size->w'.heap[b]?=w.heap[b]?)else True) _ _ _ _ ?_))) ?_
 .rw[<-c3];refine Z9 hT (T0:=T) (C1:=C1) (C2:=C2) (V:=V) (Bs:=fun b=>∃n∈V,blk (m n [])=some b) c1 c4 c5 (fun c a w hp=>by cases hp.1) (fun n hn b hb=>⟨n,hn,hb⟩) (fun j w w'=>af7) T (fun i hi=>hi) ?_ (H.world rfl rfl rfl rfl) h1 (by rw[<-c3]at c7;rw[c3]at c7 ⊢;exact c7) k3 ?_
  .intro i o e hi;have:(Array.replicate ops.size false).getD i false=false:=by
    simp only[adR,aeS];split<;>rfl
   rw[c3,this]at hi;cases hi
  .intro listed a' H' hch;rw[acJ]at c5 c6;have ht:∀j∈C1++C2,T.contains j=false:=fun j hj=>by simpa using c5 j hj
   obtain⟨sC,g1,g2,g3⟩:=Vz C1 h3;obtain⟨sf,q1,q2⟩:=MB _ _ _ _ g3;refine Z8 hT hG (C1:=C1) (sC:=sC) (Bs:=fun b=>∃n∈V,blk (m n [])=some b) ?_ ?_ ?_ (fun listed a w Hs hch=>ZC hT hG (sf:=sf) (fun a w H'=>⟨rfl,sf,q2,H'⟩) C2 (fun j hj w w'=>?_) Hs q1 hch) C1.length (C1::O2) ?_ H' k1 (fun b hb=>hb) ?_ hch
   .intro j hj w w' hb hst hnw;rw[if_neg (by rw[ht j (by simp[hj])];simp),if_pos (by simpa using hj)];exact⟨hb,hst,hnw⟩
   .intro j hj o ho n hn;have:=(k2 n hn);simp only[acM,acJ]at this;have:=this.2 j hj;rw[ho]at this;simpa using this
   .intro n hn;have:=(k2 n hn);simp only[acM,agd]at this;exact this.1
   .rw[if_neg (by rw[ht j (by simp[hj])];simp),if_neg (by simpa using c6 j hj)]
    trivial
   .intro o ho j hj;rcases ac6.1 ho with rfl|ho
    .exact hj
    .simpa using acJ.1 (acJ.1 c8 o ho) j hj
   .intro o ho;rcases ac6.1 ho with rfl|ho
    .exact g1
    .exact Mh g2 o ho
 .rintro e a' w' ⟨⟨rfl,s,hz,Hf⟩,hsm⟩;exact⟨⟨s,hz,Hf⟩,hsm⟩
end
end
end Go.Abs
