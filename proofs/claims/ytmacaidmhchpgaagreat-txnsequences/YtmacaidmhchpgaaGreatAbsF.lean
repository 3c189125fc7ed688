/- A library of readings of Go values with their ownership,and of walks on them. No statement of the program. -/
import Derived.Test.YtmacaidmhchpgaaGreatAbsE
import Derived.Shelf.SlSortCmp.Whole1
import Derived.Shelf.SlSortCmp.WholeK
import Derived.Shelf.Sort.Plain
import Derived.KernelRfl
set_option linter.defProp false
set_option linter.unusedSimpArgs false
set_option linter.unusedVariables false
namespace Go.Abs
open Go.Proofs Go.Sort Go.Shelf Go.RowKit Go.Lib
def FrK.grown{w w':World}(h:FrK w (fun _=>False) w'):∃q os,w'=grow (w.drewN q) os:=by
 refine⟨w'.drawn-w.drawn,w'.heap.extract w.heap.size w'.heap.size,?_⟩;have hh:w'.heap=w.heap++w'.heap.extract w.heap.size w'.heap.size:=by
  apply ajo;intro i;have hs:=h.size;rw[ajJ];by_cases hi:i<w.heap.size
  .rw[if_pos hi];exact h.block i hi id
  grind
 have h1:=h.drawn;have h2:=h.os;have h3:=h.tape;have h4:=h.output;obtain⟨a,b,c,d,e⟩:=w;obtain⟨a',b',c',d',e'⟩:=w';simp only at h1 h2 h3 h4 hh;simp only[grow,World.drewN];subst h2 h3 h4;have:c+(c'-c)=c':=oZg
 grind
section
variable {α:Type} [Inhabited α] {enc:α->Value} {w:World} {blk0 off m:Nat} {d:Array α} {os:Array Obj}
def H5{b:Nat}(h:b≠blk0)(hb:b<w.heap.size):(sortWorld enc w blk0 off m d os).heap[b]?=w.heap[b]?:=by
 show((w.heap.modify blk0 _)++os)[b]?=_
 grind
theorem Ni{arr:Array Value}{e:TypeId}{fz:Nat×Nat}(h:w.heap[blk0]?=some (.cells arr e fz)):(sortWorld enc w blk0 off m d os).heap[blk0]?=some (.cells (putCells enc off d arr) e fz):=by
 have hb:blk0<w.heap.size:=(ng.1 h).1;show((w.heap.modify blk0 _)++os)[blk0]?=_;rw[ajJ,if_pos oZf,aiI,if_pos rfl,h];rfl
def Lb:w.heap.size<=(sortWorld enc w blk0 off m d os).heap.size:=by
 show _<=((w.heap.modify blk0 _)++os).size;simp
end
def Xa{α:Type}{row:α->List C}{enc:α->List Value}(hrow:∀x,row x=(enc x).map .val){l:List α}{nl:Option Bool}{es:Nat}{cap:Option Nat}{p:aq}(h:ak (.sl true nl es cap (l.map row)) p):p=[]:=by
 cases p with
 | nil=>rfl
 | cons s p=>
  exfalso;simp only[ak,C.at,C.kid,cz]at h;cases hx:l[s.1]? with
  | none=>simp_all
  | some x=>
   simp only[hx,cI,cb,hrow,cz]at h;cases hy:(enc x)[s.2]? with
   | none=>simp_all
   | some y=>
    simp only[hy,cI,cb]at h;cases p with
    | nil=>simp[C.at,C.isOwn]at h
    | cons s' p=>simp[C.at,C.kid]at h
def Yh{cs:List C}{n:Nat}{p:aq}(h:ak (Rl 1 cs n) p):n=0:=by
 grind[Rl,aY]
noncomputable def Jn{α:Type}[Inhabited α](c:α->α->Option Int)(l:List α):Option (List α):=by
 classical exact
 if(∀x y,∃r,c x y=some r)/\SWO (ltOf fun x y=>(c x y).getD 0)/\l.length<4611686018427387904 then some (pdq (ltOf fun x y=>(c x y).getD 0) l.toArray 0 l.length (Lib.bitLen l.length) true true).toList else none
def RJ{α:Type}[Inhabited α]{c:α->α->Option Int}{l r:List α}(h:Jn c l=some r):
  (∀x y,∃r,c x y=some r)/\SWO (ltOf fun x y=>(c x y).getD 0)/\l.length<4611686018427387904/\r=(pdq (ltOf fun x y=>(c x y).getD 0) l.toArray 0 l.length (Lib.bitLen l.length) true true).toList:=by
 unfold Jn at h;split at h
 .rename_i hc;cases h;exact⟨hc.1,hc.2.1,hc.2.2,rfl⟩
 .cases h
def Qu{α:Type}[Inhabited α]{c:α->α->Option Int}{l r:List α}(h:Jn c l=some r):r.Perm l/\r.Pairwise fun a b=>¬(c b a).getD 0<0:=by
 obtain⟨_,hO,_,rfl⟩:=RJ h;have:=pdq_sorts (ltOf fun x y=>(c x y).getD 0) hO l.toArray 0 l.toArray.size (Lib.bitLen l.toArray.size) true true (cQ _) (ck _) (Or.inl rfl);simp only[xg]at this;generalize pdq (ltOf fun x y=>(c x y).getD 0) l.toArray 0 l.length (Lib.bitLen l.length) true true=d at this ⊢;obtain⟨⟨h1,_,h3⟩,h4⟩:=this;simp only[xg]at h1;constructor
 .have e1:d.extract 0 l.length=d:=oZf
  simp_all
 .rw[cV];intro i j hi hj hij;have hi':i<d.size:=oZg;have hj':j<d.size:=oZg;have:=h4 i j (cQ _) hij oZg
  simp_all[ltOf]
def aa8{α:Type}[Inhabited α]{c:α->α->Option Int}{l r:List α}(h:Jn c l=some r):r.length=l.length:=(Qu h).1.length_eq
theorem adf{α:Type}[Inhabited α]{c:α->α->Option Int}{l:List α}(h1:∀x y,∃r,c x y=some r)(h2:SWO (ltOf fun x y=>(c x y).getD 0))(h3:l.length<4611686018427387904):∃r,Jn c l=some r:=by
 unfold Jn;rw[if_pos ⟨h1,h2,h3⟩];exact⟨_,rfl⟩
end Go.Abs
namespace Go.Abs
open Go.Proofs Go.Sort Go.Shelf Go.RowKit Go.Lib
theorem WE{w:World}{S:Nat->Prop}{L:C->Value->Prop}{m:aq->Value}{o:Bool}{p:aq}(vs:List Value):rel w S L m o 2 p (.agg (vs.map .val)) (.agg vs.toArray):=by
 refine⟨vs.toArray,rfl,oZk,fun j c' hc=>?_⟩;rw[cz]at hc;cases hv:vs[j]? with
 | none=>simp_all
 | some v=>
  rw[hv]at hc;simp only[cI,cc]at hc;subst hc;exact⟨v,oZf,rfl⟩
def YY{P:Program}{α:Type}[Inhabited α]{enc:α->List Value}{kk:Nat}{g:FuncId}(eg:∀args w,(callFunc g args).run P w=.ok (.enter g args) w){caps:List C}{cf:α->α->Int}
  (hcmp:∀x y,∃pu,Con P g [] pu ([.agg ((enc x).map .val),.agg ((enc y).map .val)]++caps) (.val (.int .i64 (cf x y)))) {w:World} {S:Nat->Prop} {b off n:Nat} {arr1:Array Value} (hS:∀x,S x->x≠b) (hsz:arr1.size=caps.length)
  (hr:∀(j:Nat) (c':C),caps[j]?=some c'->∃u' d p,arr1[j]?=some u'/\rel w S L0 dm false d p c' u'):CmpLays P g arr1 enc kk cf b off n w:=by
 intro mm os dk hs x y;obtain⟨pu,hc⟩:=hcmp x y;have hD:=hc (sortWorldK enc kk w b off mm dk os) S (fun _=>dm) ([.agg (enc x).toArray,.agg (enc y).toArray]++arr1.toList) (by simp[hsz]) (by
  intro i c hi
  match i with
  | 0=>simp only[nF,cG,cc]at hi;subst hi;exact⟨_,2,rfl,WE (enc x)⟩
  | 1=>simp only[nF,nY,cG,cc]at hi;subst hi;exact⟨_,2,rfl,WE (enc y)⟩
  | j+2=>
   simp only[nF,cO,nY]at hi;obtain⟨u',d,p,e1,e2⟩:=hr j c hi;refine⟨u',d,oZf,?_⟩;simp only[List.getD_nil,ui];exact az (fun z hz hb=>⟨⟨hb,ff⟩,H5 (enc:=id) (d:=flatK enc kk dk) (hS z hb) hz⟩) d (fun _ _ _ h=>h) (fun h=>by simp at h) (fun h=>by simp at h) e2) (by
  intro n p n' p' z h1
  simp_all[ui,aY])
 rcases hD with⟨_,hD⟩|⟨u,w',hv,_⟩
 .have ea:([Value.agg (enc x).toArray,Value.agg (enc y).toArray]++arr1.toList).toArray=#[Value.agg (enc x).toArray,Value.agg (enc y).toArray]++arr1:=by
   simp_all
  rw[ea]at hD;refine hD.mono fun e w' h=>?_;obtain⟨u,rfl,mr,d,q1,_,_,q4⟩:=h;have hu:u=.int .i64 (cf x y):=by
   cases d with
   | zero=>exact q1.elim
   | succ d=>exact q1
  subst hu;have hfr:FrK (sortWorldK enc kk w b off mm dk os) (fun _=>False) w':=⟨q4.os,q4.tape,q4.output,q4.drawn,q4.size,fun z hz _=>q4.block z hz (by rw[ui];exact ff)⟩;exact⟨rfl,hfr.grown⟩
 simp_all
theorem afv{i k j:Nat}(h:j<k):(i*k+j)/ k=i/\(i*k+j) % k=j:=by
 constructor
 .rw[xP,Nat.mul_add_div oZg,Nat.div_eq_of_lt h];rfl
 .rw[xP,Nat.mul_add_mod,Nat.mod_eq_of_lt h]
def aaP{i k j n:Nat}(hi:i<n)(hj:j<k):i*k+j<n*k:=by
 have:=nr k (show i+1<=n from hi)
 grind
def abk{P:Program}{ρ:Ren}(L:SlLaysF0.n6 P ρ){α:Type}[Inhabited α](kk:Nat)(hk0:0<kk)(aE:∀w,(isAgg (ρ.t 24)).run P w=.ok true w)(zE:∀w,(Go.sizeOf (ρ.t 24)).run P w=.ok kk w)
  (enc:α->List Value) (hk:∀x,(enc x).length=kk) (h1:∀x,∀v∈enc x,v.oneCell'=true) (row:α->List C) (hrow:∀x,row x=(enc x).map .val) {f g:FuncId} (hf:ρ.f 6=f)
  (ef:∀args w,(callFunc f args).run P w=.ok (.enter f args) w) (eg:∀args w,(callFunc g args).run P w=.ok (.enter g args) w) {caps:List C} {cf:α->α->Int} (hO:SWO (ltOf cf))
  (hcmp:∀x y,∃pu,Con P g [] pu ([.agg ((enc x).map .val),.agg ((enc y).map .val)]++caps) (.val (.int .i64 (cf x y)))) {l:List α} (hne:l≠[]) (hl:l.length<4611686018427387904) (hgB:g<B0:=by decide):
  qe P f 1 [.sl true none kk none (l.map row),.clo g caps] (.tup []) [.sl true none kk none ((pdq (ltOf cf) l.toArray 0 l.length (Lib.bitLen l.length) true true).toList.map row)]:=by
 intro w S m us hlen hrest hlent hinj;have hpos:0<l.length:=nQ.2 hne;obtain⟨u0,d0,hu0,hd0,hr0⟩:=hlent 0 _ rfl (by omega);obtain⟨u1,d1,hu1,hr1⟩:=hrest 1 _ rfl (by omega);have hus:us=[u0,u1]:=by
  match us,hlen,hu0,hu1 with
  | [x,y],_,h0,h1=>simp_all
 subst hus;cases d0 with
 | zero=>exact hr0.elim
 | succ d0=>
 obtain⟨a,k,e1,e2,e3,e4,ez,e5,e6,e7⟩:=hr0;rw[cr]at e1 e2;rcases e7 with hk0'|⟨hb,_⟩|⟨b,off,arr,elem,frz,g1,g2,g3,g4,g5⟩
 .omega
 .simp at hb
 subst g1;obtain⟨rfl,hfit⟩:=g4 rfl;have hu:u0=.slice (some ⟨b,off,none⟩) l.length k:=by
  simp_all[Hd,dC]
 subst hu;cases d1 with
 | zero=>exact hr1.elim
 | succ d1=>
 obtain⟨arr1,hcv,hsz1,hcaps⟩:=hr1;have hcv2:H7 g arr1=.func (.func g) #[] arr1:=if_pos hgB;rw[hcv2]at hcv;subst hcv;have hown:ak (Rl 1 [C.sl true none kk none (l.map row),C.clo g caps] 0) []:=rfl;have hblk:blk (m 0 [])=some b:=by rw[e1];simp only[blk];grind
 have hbsz:b<w.heap.size:=(ng.1 g2).1;have hlk:l.length*kk<=k*kk:=nr _ e2;have hcell:∀i (hi:i<l.length) j (hj:j<kk),arr[off+(i*kk+j)]?=some ((enc l[i])[j]'(by simp_all)):=by
  intro i hi j hj;have hrj:(l.map row)[i]?=some (row l[i]):=by simp_all
  have hje:j <(enc l[i]).length:=by simp_all
  obtain⟨u',q1,q2⟩:=g5 i j (row l[i]) (.val ((enc l[i])[j]'hje)) hrj (by simp_all);cases d0 with
  | zero=>exact q2.elim
  | succ d0=>
   have:u'=(enc l[i])[j]'hje:=q2
   grind
 have hH:HoldsK enc kk w b off l.toArray:=by
  intro t ht;have ht':t<l.length*kk:=by simp_all
  have hti:t / kk<l.length:=ajr (by grind);have htj:t % kk<kk:=Nat.mod_lt _ hk0;have hte:t=t / kk*kk+t % kk:=by simp_all[xP,Nat.div_add_mod]
  have e:l.toArray[t / kk]! = l[t / kk]:=by grind
  have hje:t % kk <(enc l[t / kk]).length:=by grind
  constructor
  .simp only[World.cell?,g2,aja,cS,if_false];have:=hcell (t / kk) hti (t % kk) htj;rw[<-hte]at this;rw[this,get_flatK enc kk l.toArray t (by omega),e,getElem!_pos (enc l[t / kk]) (t % kk) hje];rfl
  grind[World.frozen?]
 have hcl:CmpLays P g arr1 enc kk cf b off l.toArray.size w:=YY eg hcmp (S:=fun b'=>S b'/\¬aJ (Rl 1 [C.sl true none kk none (l.map row),C.clo g caps]) m b')
  (fun x hx e=>hx.2 (by subst e;exact⟨0,[],hown,hblk⟩)) hsz1 (fun j c' hc'=>let⟨u',q1,q2⟩:=hcaps j c' hc';⟨u',_,_,q1,q2⟩)
 have hcon:=AnyQ.slices_SortFunc_eq L kk aE zE enc hk h1 cf hO g arr1 b off k l.toArray w eg hcl hH hbsz (by omega);have hps:=(pdq_sorts (ltOf cf) hO l.toArray 0 l.toArray.size (Lib.bitLen l.toArray.size) true true (cQ _) (ck _) (Or.inl rfl)).1.1;rw[hf]at hcon;simp only[xg]at hcon hps;generalize hd':pdq (ltOf cf) l.toArray 0 l.length (Lib.bitLen l.length) true true=d' at hcon hps ⊢;have hown':ak (Rl 1 [C.sl true none kk none (d'.toList.map row)] 0) []:=rfl;have hp0:∀{n p},ak (Rl 1 [C.sl true none kk none (d'.toList.map row)] n) p->n=0/\p=[]:=by
  intro n p h;obtain rfl:=Yh h;exact⟨rfl,Xa hrow h⟩
 left;refine⟨ef _ _,hcon.mono ?_⟩;rintro e w' ⟨rfl,n,os,rfl⟩;refine⟨_,rfl,m,⟨1,#[],rfl,rfl,by simp⟩,?_,?_,?_,?_⟩
 .intro i c hi
  match i with
  | i+1=>simp at hi
  | 0=>
  simp only[cG,cc]at hi;subst hi;refine⟨rfl,m 0 [],2,?_⟩;have hdl:(d'.toList.map row).length=l.length:=by simp[hps]
  refine⟨some ⟨b,off,none⟩,k,by rw[hdl,e1],by omega,e3,by simp,⟨by simp,by simp⟩,?_,fun _=>rfl,.inr (.inr ⟨b,off,putCells id off (flatK enc kk d') arr,elem,(0,0),rfl,Ni (enc:=id) (d:=flatK enc kk d') g2,by simp,fun _=>⟨rfl,by simpa[putCells]using hfit⟩,?_⟩)⟩
  .intro r hr;obtain⟨x,_,rfl⟩:=cH.1 hr;rw[hrow,cr,hk]
  .intro i j r c' hi hj;rw[cz]at hi;cases hx:d'.toList[i]? with
   | none=>rw[hx]at hi;simp at hi
   | some x=>
    rw[hx]at hi;simp only[cI,cc]at hi;subst hi;rw[hrow,cz]at hj;cases hv:(enc x)[j]? with
    | none=>rw[hv]at hj;simp at hj
    | some v=>
    rw[hv]at hj;simp only[cI,cc]at hj;subst hj;have hjl:j <(enc x).length:=(cg.1 hv).1;have hjk:j<kk:=by rw[<-hk x];exact hjl
    have hil:i<d'.size:=by grind
    have hxi:d'[i]! = x:=by
     grind
    have ht:i*kk+j<d'.size*kk:=aaP hil hjk;rw[hps]at ht;refine⟨v,?_,rfl⟩;have hin:off+(i*kk+j)< arr.size:=by omega
    have hge:(flatK enc kk d')[i*kk+j]! = v:=by
     grind[afv,get_flatK]
    rw[nw];simp only[putCells,ajK];rw[ai5 hin,cI,if_pos ⟨by omega,by rw[size_flatK,hps];omega⟩,show off+(i*kk+j)-off=i*kk+j by omega,hge];rfl
 .intro n p n' p' z h1 h2 _ _
  grind
 .rintro z ⟨n,p,h1,h2⟩;obtain⟨rfl,rfl⟩:=hp0 h1;exact .inr ⟨0,[],hown,h2⟩
 .refine⟨rfl,rfl,rfl,Nat.le_add_right _ _,Lb (enc:=id) (d:=flatK enc kk d'),fun z hz hno=>H5 (enc:=id) (d:=flatK enc kk d') ?_ hz⟩;rintro rfl;exact hno ⟨0,[],hown,hblk⟩
end Go.Abs
namespace Go.Abs
open Go.Proofs Go.Sort Go.Shelf Go.RowKit Go.Lib
def Jp(l:List Int):Option (List Int):=if l.length<4611686018427387904 then some (l.mergeSort fun x y=>decide (x<=y))else none
def RP{l r:List Int}(h:Jp l=some r):l.length<4611686018427387904/\r=l.mergeSort fun x y=>decide (x<=y):=by
 unfold Jp at h;split at h
 .rename_i hl;cases h;exact⟨hl,rfl⟩
 .cases h
def Qv{l r:List Int}(h:Jp l=some r):r.Perm l/\r.Pairwise (·<=·):=by
 obtain⟨_,rfl⟩:=RP h;refine⟨List.mergeSort_perm l _,?_⟩;have:=List.pairwise_mergeSort (le:=fun x y:Int=>decide (x<=y)) (fun a b c h1 h2=>by grind) (fun a b=>by grind) l
 simp_all
def Us{l r:List Int}(h:Jp l=some r):r.length=l.length:=(Qv h).1.length_eq
def aaK{P:Program}{ρ:Ren}(L:Lays.n189 P ρ){f:FuncId}(hf:ρ.f 189=f)(ef:∀args w,(callFunc f args).run P w=.ok (.enter f args) w){l r:List Int}(hne:l≠[])(hr:Jp l=some r):
  qe P f 1 [.sl true none 1 none (l.map (aA .i64))] (.tup []) [.sl true none 1 none (r.map (aA .i64))]:=by
 obtain⟨hl,he⟩:=RP hr;have hps:=Us hr;intro w S m us hlen hrest hlent hinj;have hpos:0<l.length:=nQ.2 hne;obtain⟨u0,d0,hu0,hd0,hr0⟩:=hlent 0 _ rfl oZg;have hus:us=[u0]:=by
  match us,hlen,hu0 with
  | [x],_,h0=>simp at h0;rw[h0]
 subst hus;cases d0 with
 | zero=>exact hr0.elim
 | succ d0=>
 obtain⟨a,k,e1,e2,e3,e4,ez,e5,e6,e7⟩:=hr0;rw[cr]at e1 e2;rcases e7 with hk0|⟨hb,_⟩|⟨b,off,arr,elem,frz,g1,g2,g3,g4,g5⟩
 .omega
 .simp at hb
 subst g1;obtain⟨rfl,hfit⟩:=g4 rfl;have hu:u0=.slice (some ⟨b,off,none⟩) l.length k:=by
  simp only[Hd,dC]at hd0;rcases hd0 with h|⟨a,a',h,h'⟩
  .rw[h,e1]
  .rw[e1]at h';simp only[Value.slice.injEq]at h';omega
 subst hu;have hown:ak (Rl 1 [C.sl true none 1 none (l.map (aA .i64))] 0) []:=rfl;have hblk:blk (m 0 [])=some b:=by rw[e1];simp only[blk];rw[if_neg oZg]
 have hbsz:b<w.heap.size:=(ng.1 g2).1;have hcell:∀j (hj:j<l.length),arr[off+j]?=some (.int .i64 l[j]):=by
  intro j hj;have hrj:(l.map (aA .i64))[j]?=some (aA .i64 l[j]):=by rw[cz,cj hj];rfl
  obtain⟨u',q1,q2⟩:=g5 j 0 (aA .i64 l[j]) (.val (.int .i64 l[j])) hrj rfl;cases d0 with
  | zero=>exact q2.elim
  | succ d0=>
   have:u'=.int .i64 l[j]:=q2;subst this;simpa using q1
 have hH:Holds (Value.int .i64) w b off l.toArray:=by
  intro j hj;have hj':j<l.length:=by simpa using hj
  have e:l.toArray[j]! = l[j]:=by rw[getElem!_pos l.toArray j hj];simp
  constructor
  .simp only[World.cell?,g2,aja,cS,if_false];rw[hcell j hj',e]
  .simp only[World.frozen?,g2];simp
 have hcon:=Any.slices_Sort_int L b off k l w hH hbsz hl;rw[hf,<-he]at hcon;have hp0:∀{n p},ak (Rl 1 [C.sl true none 1 none (r.map (aA .i64))] n) p->n=0/\p=[]:=by
  intro n p h;obtain rfl:=Yh h;exact⟨rfl,Xa (enc:=fun x=>[.int .i64 x]) (fun x=>rfl) h⟩
 left;refine⟨ef _ _,hcon.mono ?_⟩;rintro e w' ⟨rfl,n,os,hw'⟩;have hw:w'=sortWorld (Value.int .i64) w b off n r.toArray os:=hw';subst hw;refine⟨_,rfl,m,⟨1,#[],rfl,rfl,oZk⟩,?_,?_,?_,?_⟩
 .intro i c hi
  match i with
  | i+1=>simp at hi
  | 0=>
  simp only[cG,cc]at hi;subst hi;refine⟨rfl,m 0 [],2,?_⟩;have hdl:(r.map (aA .i64)).length=l.length:=by simp[hps]
  refine⟨some ⟨b,off,none⟩,k,by rw[hdl,e1],by rw[hdl];exact e2,e3,oZk,⟨oZk,oZk⟩,?_,fun _=>rfl,.inr (.inr ⟨b,off,putCells (Value.int .i64) off r.toArray arr,elem,(0,0),rfl,Ni g2,oZk,fun _=>⟨rfl,by simpa[putCells]using hfit⟩,?_⟩)⟩
  .intro q hq;obtain⟨x,_,rfl⟩:=cH.1 hq;rfl
  .intro i j q c' hi hj;rw[cz]at hi;cases hx:r[i]? with
   | none=>rw[hx]at hi;simp at hi
   | some x=>
    rw[hx]at hi;simp only[cI,cc]at hi;subst hi
    match j with
    | j+1=>simp[aA]at hj
    | 0=>
    have hc:c'=.val (.int .i64 x):=by simpa[aA]using hj.symm
    subst hc;have hil:i<r.length:=(cg.1 hx).1;have hxi:r.toArray[i]! = x:=by
     rw[getElem!_pos r.toArray i (by simpa using hil)];have:=(cg.1 hx).2;simpa using this
    refine⟨.int .i64 x,?_,rfl⟩;have hin:off+i<arr.size:=oZg;simp only[putCells,ajK,Nat.mul_one,xz];rw[ai5 hin,cI,if_pos ⟨oZg,oZd⟩,show off+i-off=i by omega,hxi]
 .intro n p n' p' z h1 h2 _ _;obtain⟨rfl,rfl⟩:=hp0 h1;obtain⟨rfl,rfl⟩:=hp0 h2;exact⟨rfl,rfl⟩
 .rintro z ⟨n,p,h1,h2⟩;obtain⟨rfl,rfl⟩:=hp0 h1;exact .inr ⟨0,[],hown,h2⟩
 .refine⟨rfl,rfl,rfl,Nat.le_add_right _ _,Lb,fun z hz hno=>H5 ?_ hz⟩;rintro rfl;exact hno ⟨0,[],hown,hblk⟩
end Go.Abs
namespace Go.Abs
def ga(V:List (List Value)):List (List C):=V.map (·.map .val)
def pick{α:Type}(idx:List Nat)(L:List (List α)):List (List α):=idx.map fun k=>(L[k]?).getD []
structure VW (w:World) (S:Nat->Prop) (m:aq->Value) (rows:List (List C)) (V:List (List Value)) (D:Nat):Prop where
 len:V.length=rows.length
 cell:∀(i j:Nat) row c,rows[i]?=some row->row[j]?=some c->∃vr v,V[i]?=some vr/\vr[j]?=some v/\rel w S L0 m true D [(i,j)] c v
 wid:∀(i:Nat) row vr,rows[i]?=some row->V[i]?=some vr->vr.length=row.length
def UE(V:List (List Value)):∀row∈ga V,∀c∈row,fq c:=by
 intro row hr c hc;obtain⟨vr,_,rfl⟩:=cH.1 hr;obtain⟨v,_,rfl⟩:=cH.1 hc;exact fq.val v
theorem adD{w:World}{S S':Nat->Prop}{m:aq->Value}{nl:Option Bool}{es:Nat}{cap:Option Nat}{rows:List (List C)}{u:Value}{d:Nat}(h:rel w S L0 m true d [] (.sl true nl es cap rows) u):
  ∃V D,VW w S m rows V D/\(∀vr∈V,vr.length=es)/\rel w S' L0 m true 2 [] (.sl true nl es cap (ga V)) u:=by
 cases d with
 | zero=>exact h.elim
 | succ d=>
 obtain⟨a,k,h1,h2,h3,h4,hz,h5,h6,h7⟩:=h;rcases h7 with hk|⟨hb,_⟩|⟨b,off,arr,elem,frz,g1,g2,g3,g4,g5⟩
 .have hr:rows=[]:=ai6.1 oZg;subst hr;exact⟨[],0,⟨rfl,oZk,oZk⟩,oZk,⟨a,k,h1,h2,h3,h4,hz,by simp[ga],h6,.inl hk⟩⟩
 .simp at hb
 .refine⟨rows.mapIdx fun i row=>row.mapIdx fun j _=>(arr[off+i*es+j]?).getD undef,d,⟨oZk,?_,?_⟩,?_,?_⟩
  .intro i j row c hi hj;obtain⟨u',e1,e2⟩:=g5 i j row c hi hj;refine⟨_,u',by rw[xl,hi];rfl,by rw[xl,hj,e1];rfl,?_⟩;simpa using e2
  .intro i row vr hi hv;rw[xl,hi]at hv;simp only[cI,cc]at hv;subst hv;simp
  .intro vr hv;obtain⟨i,hi⟩:=nS.1 hv;rw[xl]at hi;cases hr:rows[i]? with
   | none=>rw[hr]at hi;simp at hi
   | some row=>
    rw[hr]at hi;simp only[cI,cc]at hi;subst hi;simp only[ajM];exact h5 _ (cd hr)
  .refine⟨a,k,by simpa[ga]using h1,by simpa[ga]using h2,h3,h4,hz,?_,h6,.inr (.inr ⟨b,off,arr,elem,frz,g1,g2,oZk,g4,?_⟩)⟩
   .intro row hrow;obtain⟨vr,hv,rfl⟩:=cH.1 hrow;obtain⟨i,hi⟩:=nS.1 hv;rw[xl]at hi;cases hr:rows[i]? with
    | none=>rw[hr]at hi;simp at hi
    | some row=>
     rw[hr]at hi;simp only[cI,cc]at hi;subst hi;simp only[cr,ajM];exact h5 _ (cd hr)
   .intro i j row c' hi hj;simp only[ga,cz,xl]at hi;cases hr:rows[i]? with
    | none=>rw[hr]at hi;simp at hi
    | some row0=>
     rw[hr]at hi;simp only[cI,cc]at hi;subst hi;simp only[cz,xl]at hj;cases hc:row0[j]? with
     | none=>rw[hc]at hj;simp at hj
     | some c0=>
      rw[hc]at hj;simp only[cI,cc]at hj;subst hj;obtain⟨u',e1,_⟩:=g5 i j row0 c0 hr hc;exact⟨u',e1,by rw[e1];rfl⟩
def QL(c:C):Bool:=match c with
 | .val v=>v.oneCell'
 | .sl ..=>true
 | _=>false
def aeM{w:World}{S:Nat->Prop}{L:C->Value->Prop}{m:aq->Value}{o:Bool}{d:Nat}{p:aq}{c:C}{u:Value}(h:rel w S L m o d p c u)(hc:QL c=true):u.oneCell'=true:=by
 cases d with
 | zero=>exact h.elim
 | succ d=>
  cases c<;>simp only[QL]at hc
  case val v=>have:u=v:=h;rw[this];exact hc
  case sl=>obtain⟨a,k,h1,_⟩:=h;rw[h1];rfl
  all_goals cases hc
def VW.one{w:World}{S:Nat->Prop}{m:aq->Value}{rows:List (List C)}{V:List (List Value)}{D:Nat}(h:VW w S m rows V D)(hr:∀row∈rows,∀c∈row,QL c=true):∀vr∈V,∀v∈vr,v.oneCell'=true:=by
 intro vr hvr v hv;obtain⟨i,hi⟩:=nS.1 hvr;obtain⟨j,hj⟩:=nS.1 hv;have hil:i<rows.length:=by rw[<-h.len];exact(cg.1 hi).1
 have hrow:rows[i]?=some rows[i]:=cj hil;have hjl:j<rows[i].length:=by rw[<-h.wid i _ _ hrow hi];exact(cg.1 hj).1
 have hc:rows[i][j]?=some rows[i][j]:=cj hjl;obtain⟨vr',v',e1,e2,e3⟩:=h.cell i j _ _ hrow hc;rw[hi]at e1;cases e1;rw[hj]at e2;cases e2;exact aeM e3 (hr _ (nx _) _ (nx _))
def aap{es:Nat}{nl nl':Option Bool}{cap cap':Option Nat}{idx:List Nat}{R:List (List C)}{i j:Nat}{q:aq}(h:ak (.sl true nl es cap (pick idx R)) ((i,j)::q)):
  i<idx.length/\ak (.sl true nl' es cap' R) ((idx.getD i 0,j)::q):=by
 simp only[ak,C.at,C.kid,pick,cz]at h;cases hi:idx[i]? with
 | none=>simp[hi]at h
 | some k=>
  have hlt:=(cg.1 hi).1;refine⟨hlt,?_⟩;have hk:idx.getD i 0=k:=by simp[xR,hi]
  simp only[hi,cI,cb]at h;simp only[ak,C.at,C.kid,hk];cases hr:R[k]? with
  | none=>simp[hr]at h
  | some row=>simpa[hr]using h
def aaG{w:World}{S:Nat->Prop}{m:aq->Value}{d:Nat}{c:C}{u:Value}{q:aq}{b:Nat}(hr:rel w S L0 m true d [] c u)(ho:ak c q)(hb:blk (m q)=some b):b<w.heap.size:=by
 unfold ak at ho;cases hc:c.at q with
 | none=>simp[hc]at ho
 | some c1=>
  obtain⟨u',d',hr'⟩:=A8 q hr hc;simp only[hc,cI,cc]at ho;cases c1 with
  | sl own nl es cap rows=>
   cases own with
   | false=>simp[C.isOwn]at ho
   | true=>
    obtain⟨a,k,D,e1,e2,e3,e4,e5,e6,e7,e8⟩:=ei hr';rw[cO]at e2;rw[e2]at hb;rcases e8 with e8|⟨b',off,arr,elem,f1,f2,_⟩
    .cases a<;>simp[blk,e8]at hb
    .subst f1;simp only[blk]at hb;split at hb
     .simp at hb
     .simp only[cc]at hb;subst hb;exact(ng.1 f2).1
  | _=>simp[C.isOwn]at ho
def OG(idx:List Nat)(n0:Nat)(m0:Value)(ma mb:aq->Value):aq->Value
 | []=>m0
 |(i,j)::q=>if idx.getD i 0<n0 then ma ((idx.getD i 0,j)::q)else mb ((idx.getD i 0-n0,j)::q)
def aaS{es:Nat}{nl nl' nl'':Option Bool}{cap cap' cap'':Option Nat}{A B:List (List C)}{k j:Nat}{q:aq}(h:ak (.sl true nl es cap (A++B)) ((k,j)::q)):
  (k<A.length/\ak (.sl true nl' es cap' A) ((k,j)::q))∨(A.length<=k/\ak (.sl true nl'' es cap'' B) ((k-A.length,j)::q)):=by
 simp only[ak,C.at,C.kid]at h ⊢;by_cases hk:k<A.length
 .rw[na hk]at h;exact .inl ⟨hk,h⟩
 .rw[ni oZg]at h;exact .inr ⟨oZg,h⟩
theorem ac2{c0 c1 c2:C}(n:Nat):R0 [true,false,true] [c0,c1,c2] n=if n=0 then c0 else if n=2 then c2 else .dead:=by
 match n with
 | 0=>rfl
 | 1=>rfl
 | 2=>rfl
 | n+3=>rfl
theorem afX{P:Program}{f:FuncId}{es:Nat}{A B:List (List C)}{c1:C}{idx:List Nat}(hn:idx.Nodup)(hk:∀k∈idx,k <(A++B).length)(hA:∀row∈A,∀c∈row,QL c=true)(hB:∀row∈B,∀c∈row,QL c=true)
  (hraw:∀V W:List (List Value),V.length=A.length->W.length=B.length->(∀vr∈V,vr.length=es)->(∀vr∈W,vr.length=es)->(∀vr∈V,∀v∈vr,v.oneCell'=true)->(∀vr∈W,∀v∈vr,v.oneCell'=true)->Con P f [true,false,true] false [.sl true none es none (ga V),c1,.sl true none es none (ga W)] (.sl true none es none (ga (pick idx (V++W))))):
  Con P f [true,false,true] false [.sl true none es none A,c1,.sl true none es none B] (.sl true none es none (pick idx (A++B))):=by
 intro w S m us hl hr hinj;generalize hO:aJ (R0 [true,false,true] [C.sl true none es none A,c1,C.sl true none es none B]) m=O at hr ⊢;obtain⟨u0,d0,hu0,hr0⟩:=hr 0 _ rfl;obtain⟨u2,d2,hu2,hr2⟩:=hr 2 _ rfl;have hr0':rel w (fun b=>S b/\¬O b) L0 (m 0) true d0 [] (.sl true none es none A) u0:=hr0;have hr2':rel w (fun b=>S b/\¬O b) L0 (m 2) true d2 [] (.sl true none es none B) u2:=hr2;obtain⟨V,D,hV,hw,hrel⟩:=adD (S':=fun b=>(S b/\¬O b)/\¬O b) hr0';obtain⟨W,D',hW,hw',hrel'⟩:=adD (S':=fun b=>(S b/\¬O b)/\¬O b) hr2';have top:∀n,n=0∨n=2->ak (R0 [true,false,true] [C.sl true none es none A,c1,C.sl true none es none B] n) []:=by
  rintro n (rfl|rfl)<;>rfl
 have rawOwn:∀n p,ak (R0 [true,false,true] [C.sl true none es none (ga V),c1,C.sl true none es none (ga W)] n) p->(n=0∨n=2)/\p=[]:=by
  intro n p h;rw[ac2]at h;split at h
  .rename_i e;exact⟨.inl e,qI (UE V) h⟩
  .split at h
   .rename_i e;exact⟨.inr e,qI (UE W) h⟩
   .exact(aY h).elim
 have rawSub:∀b,aJ (R0 [true,false,true] [C.sl true none es none (ga V),c1,C.sl true none es none (ga W)]) m b->∃n,(n=0∨n=2)/\blk (m n [])=some b:=by
  rintro b ⟨n,p,h,hb⟩;obtain⟨h1,rfl⟩:=rawOwn n p h;exact⟨n,h1,hb⟩
 have rawIn:∀b,aJ (R0 [true,false,true] [C.sl true none es none (ga V),c1,C.sl true none es none (ga W)]) m b->O b:=fun b h=>by
  obtain⟨n,h1,h2⟩:=rawSub b h;rw[<-hO];exact⟨n,[],top n h1,h2⟩
 have hD:=hraw V W hV.len hW.len hw hw' (hV.one hA) (hW.one hB) w (fun b=>S b/\¬O b) m us (by simpa using hl) (by
  intro i c hi
  match i with
  | 0=>
   simp only[cG,cc]at hi;subst hi;exact⟨u0,2,hu0,az (fun b _ hb=>⟨⟨hb.1,fun q=>hb.2 (rawIn b q)⟩,rfl⟩) 2 (fun _ _ _ h=>h) (fun _ _ _ _ _ _=>rfl) (fun _ _ _=>rfl) hrel⟩
  | 1=>
   obtain⟨u,d,e1,e2⟩:=hr 1 c (by simpa using hi);exact⟨u,d,e1,az (fun b _ hb=>⟨⟨hb,fun q=>hb.2 (rawIn b q)⟩,rfl⟩) d (fun _ _ _ h=>h) (fun h=>by simp at h) (fun h=>by simp at h) e2⟩
  | 2=>
   simp only[nY,cG,cc]at hi;subst hi;exact⟨u2,2,hu2,az (fun b _ hb=>⟨⟨hb.1,fun q=>hb.2 (rawIn b q)⟩,rfl⟩) 2 (fun _ _ _ h=>h) (fun _ _ _ _ _ _=>rfl) (fun _ _ _=>rfl) hrel'⟩
  | i+3=>simp at hi) (by
  intro n p n' p' b g1 g2 b1 b2;obtain⟨h1,rfl⟩:=rawOwn n p g1;obtain⟨h2,rfl⟩:=rawOwn n' p' g2;exact hinj n [] n' [] b (top n h1) (top n' h2) b1 b2)
 refine hD.mono ?_;rintro u w' ⟨mr,d,q1,q2,q3,q4⟩;have topOwn:ak (.sl true none es none (ga (pick idx (V++W)))) []:=rfl;have inner:∀i j q b,ak (.sl true none es none (pick idx (A++B))) ((i,j)::q)->blk (OG idx A.length (mr []) (m 0) (m 2) ((i,j)::q))=some b ->
   i<idx.length/\b<w.heap.size/\∃n k,(n=0∨n=2)/\(n=0->k=idx.getD i 0/\k<A.length)/\(n=2->A.length<=idx.getD i 0/\k=idx.getD i 0-A.length)/\ak (R0 [true,false,true] [C.sl true none es none A,c1,C.sl true none es none B] n) ((k,j)::q)/\blk (m n ((k,j)::q))=some b:=by
  intro i j q b h hb;have ho:=aap (nl':=none) (cap':=none) h;simp only[OG]at hb;rcases aaS (nl':=none) (cap':=none) (nl'':=none) (cap'':=none) ho.2 with⟨h1,h2⟩|⟨h1,h2⟩
  .rw[if_pos h1]at hb;exact⟨ho.1,aaG hr0' h2 hb,0,_,.inl rfl,fun _=>⟨rfl,h1⟩,fun e=>by simp at e,h2,hb⟩
  .rw[if_neg oZg]at hb;exact⟨ho.1,aaG hr2' h2 hb,2,_,.inr rfl,fun e=>by simp at e,fun _=>⟨h1,rfl⟩,h2,hb⟩
 have notTop:∀n k j q b,ak (R0 [true,false,true] [C.sl true none es none A,c1,C.sl true none es none B] n) ((k,j)::q)->blk (m n ((k,j)::q))=some b->∀n',(n'=0∨n'=2)->blk (m n' [])≠some b:=by
  intro n k j q b h hb n' hn' e;have:=(hinj n' [] n _ b (top n' hn') h e hb).2;cases this
 have tops:∀b,blk (mr [])=some b->w.heap.size<=b∨∃n,(n=0∨n=2)/\blk (m n [])=some b:=by
  intro b hb;rcases q3 b ⟨[],topOwn,hb⟩with h|h
  .exact .inl h
  .exact .inr (rawSub b h)
 have own1:∀b,jM (.sl true none es none (pick idx (A++B))) (OG idx A.length (mr []) (m 0) (m 2)) b->w.heap.size<=b∨O b:=by
  rintro b ⟨q,ho,hb⟩
  match q,ho,hb with
  | [],_,hb=>
   rcases tops b hb with h|⟨n,h1,h2⟩
   .exact .inl h
   .rw[<-hO];exact .inr ⟨n,[],top n h1,h2⟩
  |(i,j)::q,ho,hb=>
   obtain⟨_,_,n,k,_,_,_,x1,x2⟩:=inner i j q b ho hb;rw[<-hO];exact .inr ⟨n,_,x1,x2⟩
 have keep:∀b,b<w.heap.size->(∀n,(n=0∨n=2)->blk (m n [])≠some b)->w'.heap[b]?=w.heap[b]?:=fun b hb hne=>q4.block b hb (fun h=>by obtain⟨n,h1,h2⟩:=rawSub b h;exact hne n h1 h2);have noTop:∀b,¬O b->∀n,(n=0∨n=2)->blk (m n [])≠some b:=fun b hb n h1 h2=>hb (by rw[<-hO];exact⟨n,[],top n h1,h2⟩);refine⟨OG idx A.length (mr []) (m 0) (m 2),D+D'+d+1,?_,?_,own1,⟨q4.os,q4.tape,q4.output,q4.drawn,q4.size,fun b hb hno=>keep b hb (noTop b hno)⟩⟩
 .cases d with
  | zero=>exact q1.elim
  | succ d=>
  obtain⟨a,k,e1,e2,e3,e4,ez,e5,e6,e7⟩:=q1;have hlen:(ga (pick idx (V++W))).length=(pick idx (A++B)).length:=by simp[ga,pick]
  have row1:∀k0,k0 <(A++B).length->∃(row:List C) (vr:List Value),(A++B)[k0]?=some row/\(V++W)[k0]?=some vr/\row.length=es/\∀j c,row[j]?=some c->∃v,vr[j]?=some v/\∃n kk,(n=0∨n=2)/\(n=0->k0<A.length/\kk=k0)/\(n=2->A.length<=k0/\kk=k0-A.length)/\(∀q,ak c q->ak (R0 [true,false,true] [C.sl true none es none A,c1,C.sl true none es none B] n) ((kk,j)::q))/\rel w (fun b=>S b/\¬O b) L0 (m n) true (D+D') [(kk,j)] c v:=by
   intro k0 hk0;by_cases hA:k0<A.length
   .have hrw:A[k0]?=some A[k0]:=cj hA;have hvl:k0<V.length:=by rw[hV.len];exact hA
    have hv:V[k0]?=some V[k0]:=cj hvl;refine⟨A[k0],V[k0],by rw[na hA,hrw],by rw[na hvl,hv],by rw[<-hV.wid k0 _ _ hrw hv];exact hw _ (nx _),fun j c hj=>?_⟩;obtain⟨vr,v,v1,v2,v3⟩:=hV.cell k0 j _ c hrw hj;rw[hv]at v1;cases v1;exact⟨v,v2,0,k0,.inl rfl,fun _=>⟨hA,rfl⟩,fun e=>by simp at e,fun q hq=>by show ak (C.sl true none es none A) _;simp only[ak,C.at,C.kid,hrw,cb,hj];exact hq,aW D (D+D') oZg v3⟩
   .have hB:k0-A.length<B.length:=by rw[nc]at hk0;omega
    have hrw:B[k0-A.length]?=some B[k0-A.length]:=cj hB;have hvl:k0-A.length<W.length:=by rw[hW.len];exact hB
    have hv:W[k0-A.length]?=some W[k0-A.length]:=cj hvl;refine⟨B[k0-A.length],W[k0-A.length],by rw[ni oZg,hrw],by rw[ni (by rw[hV.len];omega),hV.len,hv],by rw[<-hW.wid _ _ _ hrw hv];exact hw' _ (nx _),fun j c hj=>?_⟩;obtain⟨vr,v,v1,v2,v3⟩:=hW.cell _ j _ c hrw hj;rw[hv]at v1;cases v1;exact⟨v,v2,2,k0-A.length,.inr rfl,fun e=>by simp at e,fun _=>⟨oZg,rfl⟩,fun q hq=>by show ak (C.sl true none es none B) _;simp only[ak,C.at,C.kid,hrw,cb,hj];exact hq,aW D' (D+D') oZg v3⟩
  refine⟨a,k,by rw[<-hlen];exact e1,by rw[<-hlen];exact e2,e3,e4,ez,?_,fun h=>e6 h,?_⟩
  .intro row hrow;obtain⟨k0,hk0,rfl⟩:=cH.1 hrow;obtain⟨row,vr,r1,r2,r3,_⟩:=row1 k0 (hk k0 hk0);rw[r1];exact r3
  rcases e7 with e7|⟨hb,_⟩|⟨b,off,arr,elem,frz,g1,g2,g3,g4,g5⟩
  .exact .inl e7
  .simp at hb
  .refine .inr (.inr ⟨b,off,arr,elem,frz,g1,g2,oZk,g4,?_⟩);intro i j row c hi hj;simp only[pick,cz]at hi;cases hx:idx[i]? with
   | none=>rw[hx]at hi;simp at hi
   | some k0=>
    rw[hx]at hi;simp only[cI,cc]at hi;obtain⟨row',vr,r1,r2,_,r4⟩:=row1 k0 (hk k0 (cd hx));rw[r1,nB]at hi;subst hi;obtain⟨v,v2,n,kk,hn',n0,n2,hown,v3⟩:=r4 j c hj;obtain⟨u',f1,f2⟩:=g5 i j (vr.map .val) (.val v) (by simp only[ga,pick,cz,hx,cI,r2,nB]) (by simp[v2]);have hu':u'=v:=by
     cases d with
     | zero=>exact f2.elim
     | succ d=>exact f2
    subst hu';refine⟨u',f1,aW (D+D') (D+D'+(d+1)) oZg (az (fun b hb hs=>⟨⟨.inl ⟨rfl,.inl hs.1⟩,fun q=>(own1 b q).elim (fun h=>by omega) hs.2⟩,keep b hb (noTop b hs.2)⟩) (D+D') (fun _ _ _ h=>h) (fun _ q b ho hb hlt=>keep b hlt (notTop n kk j q b (hown q ho) (by simpa using hb))) (fun _ q ho=>?_) v3)⟩;have hx':idx.getD i 0=k0:=by simp[xR,hx]
    simp only[OG,hx']
    grind
 .intro q q' b g1 g2 b1 b2
  match q,q',g1,g2,b1,b2 with
  | [],[],_,_,_,_=>rfl
  | [],(i,j)::q',_,g2,b1,b2=>
   exfalso;obtain⟨_,x0,n,k,_,_,_,x1,x2⟩:=inner i j q' b g2 b2;rcases tops b b1 with h|⟨n',h1,h2⟩
   .omega
   .exact notTop n k j q' b x1 x2 n' h1 h2
  |(i,j)::q,[],g1,_,b1,b2=>
   exfalso;obtain⟨_,x0,n,k,_,_,_,x1,x2⟩:=inner i j q b g1 b1;rcases tops b b2 with h|⟨n',h1,h2⟩
   .omega
   .exact notTop n k j q b x1 x2 n' h1 h2
  |(i,j)::q,(i',j')::q',g1,g2,b1,b2=>
   obtain⟨y0,_,n,k,hn1,n0,n2,y1,y2⟩:=inner i j q b g1 b1;obtain⟨z0,_,n',k',hn2,n0',n2',z1,z2⟩:=inner i' j' q' b g2 b2;obtain⟨rfl,e⟩:=hinj n _ n' _ b y1 z1 y2 z2;simp only[ajd,cP]at e;obtain⟨⟨e1,rfl⟩,rfl⟩:=e;have e1':idx.getD i 0=idx.getD i' 0:=by
    rcases hn1 with rfl|rfl
    .have:=n0 rfl;have:=n0' rfl;omega
    .have:=n2 rfl;have:=n2' rfl;omega
   have e2':idx[i]=idx[i']:=by simpa[xR,y0,z0]using e1'
   have:=(List.getElem_inj hn).1 e2';subst this;rfl
def JY{α:Type}(L:List (List α)):∀(m i:Nat),i+m<=L.length->pick (List.range' i m) L=(L.drop i).take m
 | 0,i,_=>by simp[pick]
 | m+1,i,h=>by
  have hi:i<L.length:=oZg;have ih:=JY L m (i+1) oZg;rw[nI hi,ajN,<-ih];simp[pick,xM,cj hi]
def WD{α:Type}(a b:List Nat)(L:List (List α)):pick (a++b) L=pick a L++pick b L:=by simp[pick]
def KD(i n:Nat):List Nat:=List.range' 0 i++[n]++List.range' i (n-i)
def Qj{α:Type}{A:List (List α)}{x:List α}{i:Nat}(h:i<=A.length):pick (KD i A.length) (A++[x])=A.take i++[x]++A.drop i:=by
 unfold KD;rw[WD,WD,JY _ _ _ oZd,JY _ _ _ oZd]
 congr 1
 .congr 1
  .rw[nu,ajO h]
  .simp[pick]
 .rw[List.drop_append_of_le_length h,ajO oZk,cT oZk]
def XD{i n:Nat}(h:i<=n):(KD i n).Nodup:=by
 unfold KD;rw[xW,xW];refine⟨⟨List.nodup_range',oZk,fun a ha b hb=>?_⟩,List.nodup_range',fun a ha b hb=>?_⟩
 .simp only[aje,cK]at ha hb;omega
 .simp only[cJ,aje,cK]at ha hb;omega
def abl{i n k:Nat}(h:i<=n)(hk:k∈KD i n):k<n+1:=by
 unfold KD at hk;simp only[cJ,aje,cK]at hk;omega
abbrev Raw:={vr:List Value // ∀v∈vr,v.oneCell'=true}
def Iw(x:Raw):List C:=x.1.map .val
def abD:aO Iw:=by
 refine⟨fun x=>?_,fun x=>?_,fun x=>?_⟩
 .simp only[Iw,ai9];apply aiN;intro v _;rfl
 .simp only[Iw,aiQ,cE];intro v hv;exact x.2 v hv
 .simp only[Iw,aiQ,cE];intro v hv;have:v.oneCell'=true:=x.2 v hv;simp[plainCell,C.cellOk,C.isOwn,this]
theorem aaq(V:List (List Value))(h:∀vr∈V,∀v∈vr,v.oneCell'=true):∃l:List Raw,l.map Iw=ga V/\l.length=V.length/\l.map (·.1)=V:=by
 refine⟨V.attachWith _ h,?_,oZk,oZk⟩;have e:(V.attachWith _ h).map (fun x=>x.1)=V:=oZk;unfold ga
 conv=>rhs;rw[<-e]
 rw[ai9];rfl
def ach{P:Program}{f:FuncId}{es by1:Nat}(hw1:∀(α:Type) (row:α->List C),aO row->∀(l:List α) (i:Nat) (x:α) (k:Nat) (r:List α),r=l.take i++[x]++l.drop i->i<=l.length->(l.length+1)* by1<=140737488355328->l.length<=k->k<=maxLen ->
   Con P f [true,false,true] false [.sl true none es (some k) (l.map row),.val (.int .i64 i),.sl true none es none ([x].map row)] (.sl true none es none (r.map row)))
  {A:List (List C)} {rx:List C} {i:Nat} (hi:i<=A.length) (hsz:(A.length+1)* by1<=140737488355328) (hA:∀row∈A,∀c∈row,QL c=true) (hx:∀c∈rx,QL c=true):
  Con P f [true,false,true] false [.sl true none es none A,.val (.int .i64 i),.sl true none es none [rx]] (.sl true none es none (A.take i++[rx]++A.drop i)):=by
 rw[<-Qj (x:=rx) hi];refine afX (XD hi) (fun k hk=>by have:=abl hi hk;simpa using this) hA (fun row hr=>by obtain rfl:=cK.1 hr;exact hx) ?_;intro V W hV hW _ _ oV oW;obtain⟨y,rfl⟩:∃y,W=[y]:=ai7.1 hW;obtain⟨l,e1,e2,e3⟩:=aaq V oV;have hy:∀v∈y,v.oneCell'=true:=oW y oZk;rw[<-hV,Qj oZg,<-e1];have er:ga (V.take i++[y]++V.drop i)=(l.take i++[(⟨y,hy⟩:Raw)]++l.drop i).map Iw:=by
  simp only[ga,cW,xa,nL]at e1 ⊢;rw[<-e1];rfl
 rw[er];exact Pl fun k hk1 hk2=>hw1 Raw Iw abD l i ⟨y,hy⟩ k _ rfl oZg (by rw[e2,hV];exact hsz) (by simpa using hk1) hk2
end Go.Abs
namespace Go.Abs
def Ws{E:Env}{Q:Exit->St->Prop}{K:List Fm}{st:St}{id:Nat}{ops:Array Oper}{y:Code}
  (h:∀Z:St->Prop,(∀s,ap E Q (.sk y::K) .normal s->Z s)->RX E false (jH ops) (jc ops) 0 ops.toList st Z):Wk E (.seq (.region id ops false) y) (ap E Q K) st:=aN (eB h)
inductive XW (R:Nat->C):(Nat->C)->Prop where
 | n:XW R RZ
 | c {R':Nat->C} {d:Nat} {c:C} (h0:R d=c) (h:XW R R'):XW R (upd R' d c)
def XW.all{R R':Nat->C}(h:XW R R'):∀k,R' k=R k∨R' k=.dead:=by
 induction h with
 | n=>exact xn
 | c h0 _ ih=>exact xc h0 ih
inductive RW (f R':Nat->C):(Nat->C)->Prop where
 | n:RW f R' au
 | c {g:Nat->C} {d:Nat} {c:C} (h0:f d=c) (hm:c.ment (fun k _=>dN (R' k)) 3=false) (h:RW f R' g):RW f R' (af g d c)
def RW.all{n:Nat}{f g R':Nat->C}(h:RW f R' g):∀t,t<n->g t=.dead∨(g t=f t/\(g t).ment (fun k _=>dN (R' k)) 3=false):=by
 induction h with
 | n=>exact rn
 | c h0 hm _ ih=>exact rc h0 hm ih
def wr{n:Nat}{f g:Nat->C}{R R':Nat->C}(hr:XW R R')(ht:RW f R' g):aM ⟨tab n f,R⟩ ⟨tab n g,R'⟩:=SX hr.all ht.all
end Go.Abs
namespace Go.Abs
class Dp (A:Prop) (B:outParam Prop):Prop where
 p:B->A
instance (priority:=low) (A:Prop):Dp A A:=⟨id⟩
section
variable {E:Env} {Q:Exit->St->Prop} {K:List Fm} {st s':St} {id:Nat} {ops:Array Oper} {x y:Code} {P A B D:Prop}
instance [p:Pop A B] [q:Dp B D]:Dp A D:=⟨fun h=>p.pop (q.p h)⟩
instance [q:Dp (Wk E x (ap E Q (.sk y::K)) st) D]:Dp (Wk E (.seq x y) (ap E Q K) st) D:=⟨fun h=>aN (q.p h)⟩
instance [q:Dp (Wk E x (ap E Q (.bl id::K)) st) D]:Dp (Wk E (.block id x) (ap E Q K) st) D:=⟨fun h=>aK (q.p h)⟩
instance [q:Dp (Wk E x (ap E Q (.sc::K)) st) D]:Dp (Wk E (.scope x) (ap E Q K) st) D:=⟨fun h=>acu (q.p h)⟩
instance [q:Dp (ap E Q K .normal st) D]:Dp (Wk E .skip (ap E Q K) st) D:=⟨fun h=>bm (q.p h)⟩
instance [q:Dp (ap E Q K (.exit id) st) D]:Dp (Wk E (.exit id) (ap E Q K) st) D:=⟨fun h=>eV (q.p h)⟩
instance [q:Dp (ap E Q K .ret st) D]:Dp (Wk E .ret (ap E Q K) st) D:=⟨fun h=>o9 (q.p h)⟩
def z0[d:Dp A (Wk E (.region id ops false) (ap E Q K) st)][q:Dh (ap E Q K .normal s') B](k:B)
  (e:∀Z:St->Prop,Z s'->RX E false (jH ops) (jc ops) 0 ops.toList st Z:=by intro Z hZ;simp (config := { maxSteps := 4000000 }) only[go_sem,seval];exact hZ):A:=d.p (eB fun Z hZ=>e Z (hZ _ (q.h k)))
def z1(F:P)[d:Dp A (Wk E (.region id ops false) (ap E Q K) st)][q:Dh (ap E Q K .normal s') B](k:B)
  (e:P->∀Z:St->Prop,Z s'->RX E false (jH ops) (jc ops) 0 ops.toList st Z:=by intro F Z hZ;simp (config := { maxSteps := 4000000 }) only[go_sem,seval,F];exact hZ):A:=d.p (eB fun Z hZ=>e F Z (hZ _ (q.h k)))
def d0[d:Dp A (Wk E (.region id ops true) (ap E Q K) st)][q:Dh (ap E Q K .normal s') B](k:B)
  (e:∀Z:St->Prop,Z s'->RX E true (jH ops) (jc ops) 0 ops.toList st Z:=by intro Z hZ;simp (config := { maxSteps := 4000000 }) only[go_sem,seval];(repeat with_reducible refine mj (by kernel_rfl) ?_);exact hZ) (f:wH ops s'=true:=by kernel_rfl):A:=d.p (o5 fun Z hZ=>e Z (hZ _ f (q.h k)))
def d1(F:P)[d:Dp A (Wk E (.region id ops true) (ap E Q K) st)][q:Dh (ap E Q K .normal s') B](k:B)
  (e:P->∀Z:St->Prop,Z s'->RX E true (jH ops) (jc ops) 0 ops.toList st Z:=by intro F Z hZ;simp (config := { maxSteps := 4000000 }) only[go_sem,seval,F];(repeat with_reducible refine mj (by kernel_rfl) ?_);exact hZ) (f:wH ops s'=true:=by kernel_rfl):A:=d.p (o5 fun Z hZ=>e F Z (hZ _ f (q.h k)))
theorem e0{α:Sort _}{a b:α}[d:Dp A B](h:a=b)(e:a=b->B:=by intro h;cases h;simp only[go_sem,seval];exact⟨_,rfl,jV.h,vH.h⟩):A:=d.p (e h)
theorem e1(F:P){α:Sort _}{a b:α}[d:Dp A B](h:a=b)(e:P->a=b->B:=by intro F h;cases h;simp only[go_sem,seval,F];exact⟨_,rfl,jV.h,vH.h⟩):A:=d.p (e F h)
theorem f0{α:Sort _}{a b:α}[d:Dp A B](h:a=b)(e:a=b->B:=by intro h;cases h;simp only[go_sem,seval];exact⟨_,rfl,jV.h⟩):A:=d.p (e h)
theorem f1(F:P){α:Sort _}{a b:α}[d:Dp A B](h:a=b)(e:P->a=b->B:=by intro F h;cases h;simp only[go_sem,seval,F];exact⟨_,rfl,jV.h⟩):A:=d.p (e F h)
end
def k2{A B:Prop}(a:A)(b:B):A/\B:=⟨a,b⟩
def k3{A B C:Prop}(a:A)(b:B)(c:C):A/\B/\C:=⟨a,b,c⟩
def k4{A B C D:Prop}(a:A)(b:B)(c:C)(d:D):A/\B/\C/\D:=⟨a,b,c,d⟩
def k5{A B C D E:Prop}(a:A)(b:B)(c:C)(d:D)(e:E):A/\B/\C/\D/\E:=⟨a,b,c,d,e⟩
def bI{α β:Type}{x:Option α}{f:α->Option β}{b:β}(h:x.bind f=some b):∃a,x=some a/\f a=some b:=cv.1 h
section
variable {α:Type} {row f g:α->List C} {l:List α} {i:Nat} {x y y0:α} {rx ry:List C}
def mm2(hx:l[i]?=some x)(e1:row x=rx)(e2:row y=ry)(k:List C->List C)(h:k rx=ry):(l.map row).modify i k=(l.set i y).map row:=Qo hx e1 e2 h
def mm3(hx:l[i]?=some x)(e1:row y0=rx)(e2:row y=ry)(k:List C->List C)(h:k rx=ry):((l.set i y0).map row).modify i k=(l.set i y).map row:=Yz hx e1 e2 h
theorem ov1(hx:l[i]?=some x)(e1:row x=rx)(k:List C->List C):(l.map row).modify i k=(l.map row).set i (k rx):=Ui hx e1 rfl
def ov2(hx:l[i]?=some x)(ry:List C):((l.map row).set i ry)[i]?=some ry:=rL ry hx
theorem ov3(hx:l[i]?=some x)(ry:List C)(k:List C->List C):((l.map row).set i ry).modify i k=(l.map row).set i (k ry):=uM hx rfl
theorem mi1(hx:l[i]?=some x)(e1:g x=rx)(k:List C->List C):(mxR f g i l).modify i k=(mxR f g i l).set i (k rx):=abn hx e1 rfl
def mi4(h:l.length<=i)(f g:α->List C):mxR f g i l=l.map f:=ad2 h
end
def wR{n:Nat}{f g:Nat->C}{R R':Nat->C}(hr:XW R R':=by repeat' first|rfl|constructor)(ht:RW f R' g:=by repeat' first|rfl|constructor):aM ⟨tab n f,R⟩ ⟨tab n g,R'⟩:=wr hr ht
def wF{P:Prop}{n:Nat}{f g:Nat->C}{R R':Nat->C}(F:P)(hr:P->XW R R':=by intro F;repeat' first|rfl|constructor|simp only[go_sem,seval,cY,cL,nj,nk,F])
  (ht:P->RW f R' g:=by intro F;repeat' first|rfl|constructor|simp only[go_sem,seval,cY,cL,nj,nk,F]):aM ⟨tab n f,R⟩ ⟨tab n g,R'⟩:=wr (hr F) (ht F)
def iD{p:Prop}[Decidable p]{ρ:Type}{a b c:ρ}{G:Prop}(h:(if p then a else b)=c)(h1:p->decide p=true->a=c->G)(h2:¬p->decide p=false->b=c->G):G:=by
 by_cases hp:p
 .exact h1 hp (decide_eq_true hp) (by rwa[if_pos hp]at h)
 .exact h2 hp (decide_eq_false hp) (by rwa[if_neg hp]at h)
def iB{q:Bool}{ρ:Type}{a b c:ρ}{G:Prop}(h:(if q=true then a else b)=c)(h1:q=true->a=c->G)(h2:q=false->b=c->G):G:=by
 cases q with
 | true=>exact h1 rfl (by simpa using h)
 | false=>exact h2 rfl (by simpa using h)
section
variable {E:Env} {Q:Exit->St->Prop} {K:List Fm} {st:St} {x y:Code} {A:Prop} {ρ:Type} {r1 r2 r3:ρ} {c:Operand} {p:Prop} [Decidable p] {b:Bool}
theorem cD[d:Dp A (Wk E (.cond c x y) (ap E Q K) st)](h:(if p then r1 else r2)=r3)(h1:p->decide p=true->r1=r3->Wk E x (ap E Q K) st)(h2:¬p->decide p=false->r2=r3->Wk E y (ap E Q K) st)(hc:st.ev c=.val (.bool (decide p)):=by rfl):A:=
 d.p (iD h (fun a b e=>oZ hc (fun _=>h1 a b e) fun n=>absurd a n) fun a b e=>oZ hc (fun n=>absurd n a) fun _=>h2 a b e)
theorem cN[d:Dp A (Wk E (.cond c x y) (ap E Q K) st)](h:(if p then r1 else r2)=r3)(h1:¬p->decide p=false->r2=r3->Wk E x (ap E Q K) st)(h2:p->decide p=true->r1=r3->Wk E y (ap E Q K) st)(hc:st.ev c=.val (.bool (!decide p)):=by rfl):A:=
 d.p (iD h (fun a b e=>Ig hc (fun n=>absurd a n) fun _=>h2 a b e) fun a b e=>Ig hc (fun _=>h1 a b e) fun n=>absurd n a)
theorem cB[d:Dp A (Wk E (.cond c x y) (ap E Q K) st)](h:(if b=true then r1 else r2)=r3)(h1:b=true->r1=r3->Wk E x (ap E Q K) st)(h2:b=false->r2=r3->Wk E y (ap E Q K) st)(hc:st.ev c=.val (.bool b):=by rfl):A:=
 d.p (iB h (fun a e=>pe hc (fun _=>h1 a e) fun n=>by simp[a]at n) fun a e=>pe hc (fun n=>by simp[a]at n) fun _=>h2 a e)
theorem cM[d:Dp A (Wk E (.cond c x y) (ap E Q K) st)](h:(if b=true then r1 else r2)=r3)(h1:b=false->r2=r3->Wk E x (ap E Q K) st)(h2:b=true->r1=r3->Wk E y (ap E Q K) st)(hc:st.ev c=.val (.bool (!b)):=by rfl):A:=
 d.p (iB h (fun a e=>p7 hc (fun n=>by simp[a]at n) fun _=>h2 a e) fun a e=>p7 hc (fun _=>h1 a e) fun n=>by simp[a]at n)
theorem cDs[d:Dp A (Wk E (.cond c x y) (ap E Q K) st)](h:(if p then r1 else r2)=r3)(h2:¬p->decide p=false->r2=r3->Wk E y (ap E Q K) st)(h1:p->decide p=true->r1=r3->Wk E x (ap E Q K) st)(hc:st.ev c=.val (.bool (decide p)):=by rfl):A:=cD h h1 h2 hc
theorem cNs[d:Dp A (Wk E (.cond c x y) (ap E Q K) st)](h:(if p then r1 else r2)=r3)(h2:p->decide p=true->r1=r3->Wk E y (ap E Q K) st)(h1:¬p->decide p=false->r2=r3->Wk E x (ap E Q K) st)(hc:st.ev c=.val (.bool (!decide p)):=by rfl):A:=cN h h1 h2 hc
theorem cBs[d:Dp A (Wk E (.cond c x y) (ap E Q K) st)](h:(if b=true then r1 else r2)=r3)(h2:b=false->r2=r3->Wk E y (ap E Q K) st)(h1:b=true->r1=r3->Wk E x (ap E Q K) st)(hc:st.ev c=.val (.bool b):=by rfl):A:=cB h h1 h2 hc
theorem cMs[d:Dp A (Wk E (.cond c x y) (ap E Q K) st)](h:(if b=true then r1 else r2)=r3)(h2:b=true->r1=r3->Wk E y (ap E Q K) st)(h1:b=false->r2=r3->Wk E x (ap E Q K) st)(hc:st.ev c=.val (.bool (!b)):=by rfl):A:=cM h h1 h2 hc
theorem ct[d:Dp A (Wk E (.cond c x y) (ap E Q K) st)](h:Wk E x (ap E Q K) st)(hc:st.ev c=.val (.bool true):=by rfl):A:=d.p (abI hc h)
theorem cf[d:Dp A (Wk E (.cond c x y) (ap E Q K) st)](h:Wk E y (ap E Q K) st)(hc:st.ev c=.val (.bool false):=by rfl):A:=d.p (abP hc h)
def iDs{ρ:Type}{a b c:ρ}{G:Prop}(h:(if p then a else b)=c)(h2:¬p->decide p=false->b=c->G)(h1:p->decide p=true->a=c->G):G:=iD h h1 h2
def iBs{q:Bool}{ρ:Type}{a b c:ρ}{G:Prop}(h:(if q=true then a else b)=c)(h2:q=false->b=c->G)(h1:q=true->a=c->G):G:=iB h h1 h2
end
section
variable {E:Env} {Q:Exit->St->Prop} {K:List Fm} {st:St} {A:Prop} {c:Code} {α β ρ:Type} {l:List α} {L:List α->Nat->β->Option ρ} {r:ρ}
def lG(mk:Nat->β->St)(b0:β)[d:Dp A (Wk E (.loop c) (ap E Q K) st)](h:L l 0 b0=some r)(h0:aM st (mk 0 b0))(hl:wv st->l.length<=maxLen)
  (hn:∀i b,¬i<l.length->L [] i b=some r->Wk E c (ap E Q (.lp (fun s=>i<l.length/\∃b',aM s (mk (i+1) b')/\L (l.drop (i+1)) (i+1) b'=some r)::K)) (mk i b))
  (hc:∀i b x,i<l.length->l[i]?=some x->IntKind.i64.wrap ((i:Int)+1)=((i+1:Nat):Int)->L (x::l.drop (i+1)) i b=some r->Wk E c (ap E Q (.lp (fun s=>i<l.length/\∃b',aM s (mk (i+1) b')/\L (l.drop (i+1)) (i+1) b'=some r)::K)) (mk i b)):A:=
 d.p (dc fun hr=>fb mk b0 h h0 fun i b hi hL _=>by
  rcases dj l i hi with⟨x,h1,h2,h3⟩|⟨h1,_,h3⟩
  .rw[h3]at hL;exact hc i b x h1 h2 (bn h1 (hl hr)) hL
  .rw[h3]at hL;exact hn i b h1 hL)
variable {n:Nat} {f:Nat->C} {R:Nat->C} {o o':Bool} {nl nl':Option Bool} {es es':Nat} {cap cap':Option Nat} {rows:List (List C)} {row:List C}
def lTs(t:Nat)(mk:Nat->β->St)(b0:β)(h:L l 0 b0=some r)[d:Dp A (Wk E (.loop c) (ap E Q K) ⟨tab n f,R⟩)]
  (hc:∀i b x,i<l.length->l[i]?=some x->IntKind.i64.wrap ((i:Int)+1)=((i+1:Nat):Int)->L (x::l.drop (i+1)) i b=some r->Wk E c (ap E Q (.lp (fun s=>i<l.length/\∃b',aM s (mk (i+1) b')/\L (l.drop (i+1)) (i+1) b'=some r)::K)) (mk i b))
  (hn:∀i b,¬i<l.length->L [] i b=some r->Wk E c (ap E Q (.lp (fun s=>i<l.length/\∃b',aM s (mk (i+1) b')/\L (l.drop (i+1)) (i+1) b'=some r)::K)) (mk i b))
  (h0:aM ⟨tab n f,R⟩ (mk 0 b0):=by exact wR) (ht:t<n:=by decide) (hv:f t=.sl o nl es cap rows:=by rfl) (hm:rows.length=l.length:=by first|rw[cr]|rw[Bz]|rw[<-cW,cr]):A:=lG mk b0 h h0 (fun q=>hm▸q.lenT t ht hv) hn hc
def lT(t:Nat)(mk:Nat->β->St)(b0:β)(h:L l 0 b0=some r)[d:Dp A (Wk E (.loop c) (ap E Q K) ⟨tab n f,R⟩)]
  (hn:∀i b,¬i<l.length->L [] i b=some r->Wk E c (ap E Q (.lp (fun s=>i<l.length/\∃b',aM s (mk (i+1) b')/\L (l.drop (i+1)) (i+1) b'=some r)::K)) (mk i b))
  (hc:∀i b x,i<l.length->l[i]?=some x->IntKind.i64.wrap ((i:Int)+1)=((i+1:Nat):Int)->L (x::l.drop (i+1)) i b=some r->Wk E c (ap E Q (.lp (fun s=>i<l.length/\∃b',aM s (mk (i+1) b')/\L (l.drop (i+1)) (i+1) b'=some r)::K)) (mk i b))
  (h0:aM ⟨tab n f,R⟩ (mk 0 b0):=by exact wR) (ht:t<n:=by decide) (hv:f t=.sl o nl es cap rows:=by rfl) (hm:rows.length=l.length:=by first|rw[cr]|rw[Bz]|rw[<-cW,cr]):A:=lG mk b0 h h0 (fun q=>hm▸q.lenT t ht hv) hn hc
def lCs(k j:Nat)(mk:Nat->β->St)(b0:β)(h:L l 0 b0=some r)[d:Dp A (Wk E (.loop c) (ap E Q K) ⟨tab n f,R⟩)]
  (hc:∀i b x,i<l.length->l[i]?=some x->IntKind.i64.wrap ((i:Int)+1)=((i+1:Nat):Int)->L (x::l.drop (i+1)) i b=some r->Wk E c (ap E Q (.lp (fun s=>i<l.length/\∃b',aM s (mk (i+1) b')/\L (l.drop (i+1)) (i+1) b'=some r)::K)) (mk i b))
  (hn:∀i b,¬i<l.length->L [] i b=some r->Wk E c (ap E Q (.lp (fun s=>i<l.length/\∃b',aM s (mk (i+1) b')/\L (l.drop (i+1)) (i+1) b'=some r)::K)) (mk i b))
  (h0:aM ⟨tab n f,R⟩ (mk 0 b0):=by exact wR) (ht:R k=.sl o nl es cap [row]:=by rfl) (hv:row[j]?=some (.sl o' nl' es' cap' rows):=by rfl) (hm:rows.length=l.length:=by first|rw[cr]|rw[Bz]|rw[<-cW,cr]):A:=lG mk b0 h h0 (fun q=>hm▸q.cell k j ht hv) hn hc
def lC(k j:Nat)(mk:Nat->β->St)(b0:β)(h:L l 0 b0=some r)[d:Dp A (Wk E (.loop c) (ap E Q K) ⟨tab n f,R⟩)]
  (hn:∀i b,¬i<l.length->L [] i b=some r->Wk E c (ap E Q (.lp (fun s=>i<l.length/\∃b',aM s (mk (i+1) b')/\L (l.drop (i+1)) (i+1) b'=some r)::K)) (mk i b))
  (hc:∀i b x,i<l.length->l[i]?=some x->IntKind.i64.wrap ((i:Int)+1)=((i+1:Nat):Int)->L (x::l.drop (i+1)) i b=some r->Wk E c (ap E Q (.lp (fun s=>i<l.length/\∃b',aM s (mk (i+1) b')/\L (l.drop (i+1)) (i+1) b'=some r)::K)) (mk i b))
  (h0:aM ⟨tab n f,R⟩ (mk 0 b0):=by exact wR) (ht:R k=.sl o nl es cap [row]:=by rfl) (hv:row[j]?=some (.sl o' nl' es' cap' rows):=by rfl) (hm:rows.length=l.length:=by first|rw[cr]|rw[Bz]|rw[<-cW,cr]):A:=lG mk b0 h h0 (fun q=>hm▸q.cell k j ht hv) hn hc
end
class Dc {A:Type} (d:C->Option A) (t:outParam (A->C)):Prop where
 le:∀{c:C} {x:A},d c=some x->Le c (t x)
class Dr {A:Type} (d:List C->Option A) (row:outParam (A->List C)):Prop where
 le:∀(r:List C) (x:A),d r=some x->LeL r (row x)
instance {k:IntKind}:Dc (aC k) (fun n=>.val (.int k n)):=⟨bE⟩
instance:Dc IU (fun n=>.val (.bool n)):=⟨Zk⟩
instance:Dc bG (fun n=>.val (.string n)):=⟨gK⟩
instance {A:Type} {es:Nat} {d:List C->Option A} {row:A->List C} [h:Dr d row]:Dc (aD es d) (fun l=>.sl false none es none (l.map row)):=⟨fun q=>fX h.le q⟩
instance {k:IntKind}:Dr (bO (aC k)) (aA k):=⟨jR k⟩
instance:Dr (bO bG) dA:=⟨LG⟩
section
variable {P:Program} {k:FuncId} {pure:Bool} {A0 A1 A2 A3 A4 A5 A6 B:Type} {d0:C->Option A0} {d1:C->Option A1} {d2:C->Option A2} {d3:C->Option A3} {d4:C->Option A4} {d5:C->Option A5} {d6:C->Option A6} {t0:A0->C} {t1:A1->C} {t2:A2->C} {t3:A3->C} {t4:A4->C} {t5:A5->C} {t6:A6->C} {g:B->C}
theorem om1{m:A0->Option B}[l0:Dc d0 t0](h:∀q0 r,m q0=some r->Con P k [] pure [t0 q0] (g r)):ar P k ⟨[],pure,fn1 d0 (fun q0=>(m q0).map g),false⟩:=ok1 (fun q0 r e=>by obtain⟨x,hx,rfl⟩:=cq.1 e;exact h q0 x hx) l0.le
theorem om2{m:A0->A1->Option B}[l0:Dc d0 t0][l1:Dc d1 t1](h:∀q0 q1 r,m q0 q1=some r->Con P k [] pure [t0 q0,t1 q1] (g r)):ar P k ⟨[],pure,fn2 d0 d1 (fun q0 q1=>(m q0 q1).map g),false⟩:=ok2 (fun q0 q1 r e=>by obtain⟨x,hx,rfl⟩:=cq.1 e;exact h q0 q1 x hx) l0.le l1.le
theorem om3{m:A0->A1->A2->Option B}[l0:Dc d0 t0][l1:Dc d1 t1][l2:Dc d2 t2](h:∀q0 q1 q2 r,m q0 q1 q2=some r->Con P k [] pure [t0 q0,t1 q1,t2 q2] (g r)):ar P k ⟨[],pure,fn3 d0 d1 d2 (fun q0 q1 q2=>(m q0 q1 q2).map g),false⟩:=ok3 (fun q0 q1 q2 r e=>by obtain⟨x,hx,rfl⟩:=cq.1 e;exact h q0 q1 q2 x hx) l0.le l1.le l2.le
theorem om4{m:A0->A1->A2->A3->Option B}[l0:Dc d0 t0][l1:Dc d1 t1][l2:Dc d2 t2][l3:Dc d3 t3](h:∀q0 q1 q2 q3 r,m q0 q1 q2 q3=some r->Con P k [] pure [t0 q0,t1 q1,t2 q2,t3 q3] (g r)):ar P k ⟨[],pure,fn4 d0 d1 d2 d3 (fun q0 q1 q2 q3=>(m q0 q1 q2 q3).map g),false⟩:=ok4 (fun q0 q1 q2 q3 r e=>by obtain⟨x,hx,rfl⟩:=cq.1 e;exact h q0 q1 q2 q3 x hx) l0.le l1.le l2.le l3.le
theorem om5{m:A0->A1->A2->A3->A4->Option B}[l0:Dc d0 t0][l1:Dc d1 t1][l2:Dc d2 t2][l3:Dc d3 t3][l4:Dc d4 t4](h:∀q0 q1 q2 q3 q4 r,m q0 q1 q2 q3 q4=some r->Con P k [] pure [t0 q0,t1 q1,t2 q2,t3 q3,t4 q4] (g r)):ar P k ⟨[],pure,fn5 d0 d1 d2 d3 d4 (fun q0 q1 q2 q3 q4=>(m q0 q1 q2 q3 q4).map g),false⟩:=ok5 (fun q0 q1 q2 q3 q4 r e=>by obtain⟨x,hx,rfl⟩:=cq.1 e;exact h q0 q1 q2 q3 q4 x hx) l0.le l1.le l2.le l3.le l4.le
theorem om6{m:A0->A1->A2->A3->A4->A5->Option B}[l0:Dc d0 t0][l1:Dc d1 t1][l2:Dc d2 t2][l3:Dc d3 t3][l4:Dc d4 t4][l5:Dc d5 t5](h:∀q0 q1 q2 q3 q4 q5 r,m q0 q1 q2 q3 q4 q5=some r->Con P k [] pure [t0 q0,t1 q1,t2 q2,t3 q3,t4 q4,t5 q5] (g r)):ar P k ⟨[],pure,fn6 d0 d1 d2 d3 d4 d5 (fun q0 q1 q2 q3 q4 q5=>(m q0 q1 q2 q3 q4 q5).map g),false⟩:=ok6 (fun q0 q1 q2 q3 q4 q5 r e=>by obtain⟨x,hx,rfl⟩:=cq.1 e;exact h q0 q1 q2 q3 q4 q5 x hx) l0.le l1.le l2.le l3.le l4.le l5.le
def rs{cs:List C}{r0 r:C}(h:Con P k [] pure cs r0)(e:ROk r0 r:=by(try simp only[go_sem]);exact jV.h):Con P k [] pure cs r:=h.res e
def fk{fn:Func}{body:Code}(hf:P.funcs[k]?=some fn){G:Nat->Nat->Option FnS}(hG:∀d f fs,G d f=some fs->ar P f fs){cs:List C}{r:C}
  (hW:Wk (EE P G [] noL) body (ap (EE P G [] noL) (Tw (EE P G [] noL) fn.results.toList pure r) []) ⟨tab fn.ntmps (GP au 0 cs),RZ⟩) (hb:fn.body=some body:=by rfl) (hname:(fn.name == "runtime.NumGoroutine")= false := by decide) (hok : ly body = true := by kernel_rfl)
  (hmix:P.follows .mixedOrders=true:=by exact mix) (hn:cs.length<=fn.ntmps:=by exact cU rfl):Con P k [] pure cs r:=DD hf hb hname hok hG [] hmix hn hW
end
abbrev vI (n:Int):C:=.val (.int .i64 n)
abbrev vB (b:Bool):C:=.val (.bool b)
abbrev vS (s:ByteArray):C:=.val (.string s)
abbrev sF (es:Nat) (l:List (List C)):C:=.sl false none es none l
abbrev sO (es:Nat) (l:List (List C)):C:=.sl true none es none l
abbrev vA (es:Nat) (r:List C):C:=.sl true none es (some 1) [r]
abbrev pF (n:Nat):C:=.pref n [] 0 0
attribute [go_sem] vI vB vS sF sO vA pF
def ag{P:Program}{k:FuncId}{pure:Bool}{cs cs':List C}{r:C}(h:Con P k [] pure cs r)(e:LeL cs' cs:=by
 repeat' first|exact LeL.nil|refine LeL.cons ?_ ?_|exact Le.dead _|refine Le.clo ?_|refine Le.iref1 ?_|(have q:=Dc.le h0;exact q)|(have q:=Dc.le h1;exact q)|(have q:=Dc.le h2;exact q)|(have q:=Dc.le h3;exact q)|(have q:=Dc.le h4;exact q)|(have q:=Dc.le h5;exact q)|(have q:=Dc.le h6;exact q)|(have q:=Dc.le h7;exact q)|(have q:=Dc.le h8;exact q)|(have q:=Dc.le h9;exact q)|(have q:=Dc.le h10;exact q)|(have q:=Dc.le h11;exact q)|(have q:=Dc.le h12;exact q)|(have q:=Dc.le h13;exact q)|(have q:=Dc.le h14;exact q)|(have q:=Dc.le h15;exact q)|(have q:=Dc.le h16;exact q)|(have q:=Dc.le h17;exact q)):Con P k [] pure cs' r:=h.args e
def wP{A:Prop}(e:A:=by
 (try simp only[fg,ek,go_sem,seval,cR,cQ,ck, *])
 refine SX ?_ ?_<;>repeat' first|exact xn|exact rn|refine xc ?_ ?_|refine rc ?_ ?_ ?_|rfl|simp only[go_sem,seval,cY,cL,nj,nk,cR,cQ,ck, *]):A:=e
def hT{A:Prop}(e:A:=by
 repeat' first
  | exact trivial
  |(refine aah (by kernel_rfl) fun Y hY=>?_;simp only[go_sem,seval,cR,cQ,ck, *];refine hY _ (by kernel_rfl) ?_;clear hY)
  |(refine aaF ?_;exact wP)
  | refine And.intro ?_ ?_):A:=e
def oz{P:Program}{k:FuncId}{pure:Bool}{fn:List C->Option C}{W:Prop}(w:W)(e:W->∀cs r,fn cs=some r->Con P k [] pure cs r:=by
 intro w cs r h;split at h
 .simp only[cv,cq]at h;first
  |(obtain⟨r',hr,rfl⟩:=h;exact ag (w _ hr))
  |(obtain⟨q0,h0,r',hr,rfl⟩:=h;exact ag (w _ _ hr))
  |(obtain⟨q0,h0,q1,h1,r',hr,rfl⟩:=h;exact ag (w _ _ _ hr))
  |(obtain⟨q0,h0,q1,h1,q2,h2,r',hr,rfl⟩:=h;exact ag (w _ _ _ _ hr))
  |(obtain⟨q0,h0,q1,h1,q2,h2,q3,h3,r',hr,rfl⟩:=h;exact ag (w _ _ _ _ _ hr))
  |(obtain⟨q0,h0,q1,h1,q2,h2,q3,h3,q4,h4,q5,h5,q6,h6,q7,h7,q8,h8,r',hr,rfl⟩:=h;exact ag (w _ _ _ _ _ _ _ _ _ _ hr))
  |(obtain⟨q0,h0,q1,h1,q2,h2,q3,h3,q4,h4,q5,h5,q6,h6,q7,h7,q8,h8,q9,h9,q10,h10,q11,h11,q12,h12,q13,h13,q14,h14,r',hr,rfl⟩:=h;exact ag (w _ _ _ _ _ _ _ _ _ _ _ _ _ _ _ _ hr))
 .cases h):ar P k ⟨[],pure,fn,false⟩:=⟨fun cs r h=>e w cs r h,fun h=>by cases h⟩
end Go.Abs
namespace Go.Abs
section
variable {α β:Type} {G:Prop}
def oB{x:Option α}{f:α->Option β}{b:β}(k:∀a,x=some a->f a=some b->G):x.bind f=some b->G:=fun h=>let⟨a,h1,h2⟩:=bI h;k a h1 h2
def oG{l:List α}{i:Int}{f:α->Option β}{r:β}(k:∀x,(0<=i/\i<l.length)->l[i.toNat]?=some x->f x=some r->G):gx l i f=some r->G:=fun h=>let⟨a,h1,h2,h3⟩:=aQ h;k a h1 h2 h3
def oM{l:List α}{i:Nat}{f:α->Option β}{r:β}(k:∀x,i<l.length->l[i]?=some x->f x=some r->G):gx l (i:Int) f=some r->G:=fun h=>let⟨a,h1,h2,h3⟩:=aQ h;k a oZg (by simpa using h2) h3
def oN{l:List α}{i:Nat}{x:α}{f:α->Option β}{r:Option β}(e:l[i]?=some x)(k:f x=r->G):gx l (i:Int) f=r->G:=fun h=>k ((aw e).symm.trans h)
def oA{bytes:Nat}{a b:List α}{f:List α->Option β}{r:β}(k:(a.length+b.length)*(bytes+1)<=140737488355328->f (a++b)=some r->G):apx bytes a b f=some r->G:=fun h=>let⟨h1,h2⟩:=bq h;k h1 h2
def oX{l:List α}{lo hi:Int}{f:List α->Option β}{r:β}(k:(0<=lo/\0<=hi/\lo.toNat<=hi.toNat/\hi.toNat<=l.length)->f ((l.drop lo.toNat).take (hi.toNat-lo.toNat))=some r->G):slx l lo hi f=some r->G:=fun h=>let⟨h1,h2⟩:=fC h;k h1 h2
def oAp{bytes:Nat}{b:List α}{f:Option β}{r:β}(k:b.length *(bytes+1)<=140737488355328->f=some r->G):apn bytes b f=some r->G:=fun h=>let⟨h1,h2⟩:=AK h;k h1 h2
def oT{l:List α}{hi:Int}{f:List α->Option β}{r:β}(k:(0<=hi/\hi.toNat<=l.length)->((hi.toNat=(l.take hi.toNat).length)=True)->f (l.take hi.toNat)=some r->G):slt l hi f=some r->G:=fun h=>let⟨h1,h2,h3⟩:=Ii h;k h1 h2 h3
def oS{s:ByteArray}{lo hi:Int}{f:ByteArray->Option β}{r:β}(k:(0<=lo/\0<=hi/\lo.toNat<=hi.toNat/\hi.toNat<=s.size)->f (s.extract lo.toNat hi.toNat)=some r->G):sls s lo hi f=some r->G:=fun h=>let⟨h1,h2⟩:=WW h;k h1 h2
def oC{s:ByteArray}{i:Int}{f:UInt8->Option β}{r:β}(k:∀x,0<=i->s[i.toNat]?=some x->f x=some r->G):gxs s i f=some r->G:=fun h=>let⟨x,h1,h2,h3⟩:=adz h;k x h1 h2 h3
def oV{b:Int}{f:Option β}{r:β}(k:decide (b=0)=false->¬b=0->f=some r->G):dvx b f=some r->G:=fun h=>let⟨h1,h2⟩:=ado h;k (decide_eq_false h1) h1 h2
def oH{b:Int}{f:Option β}{r:β}(k:decide (b<0)=false->¬b<0->f=some r->G):shx b f=some r->G:=fun h=>let⟨h1,h2⟩:=XG h;k (decide_eq_false h1) h1 h2
def oL{ρ:Type}{p:ρ->List α}{l:List α}{o:Option ρ}{r:ρ}(k:(p r).length=l.length->o=some r->G):GO p l o=some r->G:=fun h=>let⟨h1,h2⟩:=ll h;k h2 h1
def oD{p:Prop}[Decidable p]{a b c:α}(h1:decide p=true->a=c->G)(h2:decide p=false->b=c->G):(if p then a else b)=c->G:=fun h=>iD h (fun _=>h1) fun _=>h2
def oQ{q:Bool}{a b c:α}(h1:q=true->a=c->G)(h2:q=false->b=c->G):(if q=true then a else b)=c->G:=fun h=>iB h h1 h2
def oI{m n:Nat}{a b c:α}(k:(if m<n then a else b)=c->G):(if(m:Int)<(n:Int)then a else b)=c->G:=fun h=>k (by simpa only[nU]using h)
def oP{p:Prop}[Decidable p]{a b c:α}(e:decide p=true)(k:a=c->G):(if p then a else b)=c->G:=fun h=>k (by rwa[if_pos (of_decide_eq_true e)]at h)
def oO{p:Prop}[Decidable p]{a b c:α}(e:decide p=false)(k:b=c->G):(if p then a else b)=c->G:=fun h=>k (by rwa[if_neg (of_decide_eq_false e)]at h)
end
section
variable {E:Env} {Q:Exit->St->Prop} {K:List Fm} {st s':St} {id:Nat} {ops:Array Oper} {x y:Code} {P A B D H:Prop}
theorem gz[d:Dp A (Wk E (.region id ops false) (ap E Q K) st)][q:Dh (ap E Q K .normal s') B](e:∀Z:St->Prop,Z s'->RX E false (jH ops) (jc ops) 0 ops.toList st Z)(k:H->B):H->A:=fun h=>d.p (eB fun Z hZ=>e Z (hZ _ (q.h (k h))))
theorem gd[d:Dp A (Wk E (.region id ops true) (ap E Q K) st)][q:Dh (ap E Q K .normal s') B](e:∀Z:St->Prop,Z s'->RX E true (jH ops) (jc ops) 0 ops.toList st Z)(f:wH ops s'=true)(k:H->B):H->A:=fun h=>d.p (o5 fun Z hZ=>e Z (hZ _ f (q.h (k h))))
theorem gY[d:Dp A (Wk E (.region id ops false) (ap E Q K) st)](k:∀Z:St->Prop,(∀s,ap E Q K .normal s->Z s)->H->RX E false (jH ops) (jc ops) 0 ops.toList st Z):H->A:=fun h=>d.p (eB fun Z hZ=>k Z hZ h)
theorem gYd[d:Dp A (Wk E (.region id ops true) (ap E Q K) st)](k:∀Z:St->Prop,(∀s,wH ops s=true->ap E Q K .normal s->Z s)->H->RX E true (jH ops) (jc ops) 0 ops.toList st Z):H->A:=fun h=>d.p (o5 fun Z hZ=>k Z hZ h)
def gR{dr:Bool}{gd:Nat->Option Tmp}{bar:Nat->Bool}{i:Nat}{l:List Oper}{Z:St->Prop}(k:H->RX E dr gd bar i l st Z):H->RX E dr gd bar i l st Z:=k
theorem gV{Z:St->Prop}(hZ:∀s,ap E Q K .normal s->Z s)[q:Dh (ap E Q K .normal s') B](k:H->B):H->Z s':=fun h=>hZ _ (q.h (k h))
theorem gVd{Z:St->Prop}(hZ:∀s,wH ops s=true->ap E Q K .normal s->Z s)[q:Dh (ap E Q K .normal s') B](f:wH ops s'=true)(k:H->B):H->Z s':=fun h=>hZ _ f (q.h (k h))
theorem gE{α:Type}{a b:α}[d:Dp A B](e:a=b->B):a=b->A:=fun h=>d.p (e h)
variable {ρ:Type} {r1 r2 r3:ρ} {c:Operand} {p:Prop} [Decidable p] {b:Bool}
theorem gD[d:Dp A (Wk E (.cond c x y) (ap E Q K) st)](h1:decide p=true->r1=r3->Wk E x (ap E Q K) st)(h2:decide p=false->r2=r3->Wk E y (ap E Q K) st)(hc:st.ev c=.val (.bool (decide p)):=by rfl):(if p then r1 else r2)=r3->A:=fun h=>cD h (fun _=>h1) (fun _=>h2) hc
theorem gN[d:Dp A (Wk E (.cond c x y) (ap E Q K) st)](h1:decide p=false->r2=r3->Wk E x (ap E Q K) st)(h2:decide p=true->r1=r3->Wk E y (ap E Q K) st)(hc:st.ev c=.val (.bool (!decide p)):=by rfl):(if p then r1 else r2)=r3->A:=fun h=>cN h (fun _=>h1) (fun _=>h2) hc
theorem gB[d:Dp A (Wk E (.cond c x y) (ap E Q K) st)](h1:b=true->r1=r3->Wk E x (ap E Q K) st)(h2:b=false->r2=r3->Wk E y (ap E Q K) st)(hc:st.ev c=.val (.bool b):=by rfl):(if b=true then r1 else r2)=r3->A:=fun h=>cB h h1 h2 hc
theorem gM[d:Dp A (Wk E (.cond c x y) (ap E Q K) st)](h1:b=false->r2=r3->Wk E x (ap E Q K) st)(h2:b=true->r1=r3->Wk E y (ap E Q K) st)(hc:st.ev c=.val (.bool (!b)):=by rfl):(if b=true then r1 else r2)=r3->A:=fun h=>cM h h1 h2 hc
theorem gt[d:Dp A (Wk E (.cond c x y) (ap E Q K) st)](h:H->Wk E x (ap E Q K) st)(hc:st.ev c=.val (.bool true):=by rfl):H->A:=fun k=>ct (h k) hc
theorem gf[d:Dp A (Wk E (.cond c x y) (ap E Q K) st)](h:H->Wk E y (ap E Q K) st)(hc:st.ev c=.val (.bool false):=by rfl):H->A:=fun k=>cf (h k) hc
theorem gp[d:Dh A B](h:H->B):H->A:=fun k=>d.h (h k)
def z2[d:Dp A (Wk E (.region id ops false) (ap E Q K) st)][q:Dh (ap E Q K .normal s') B](k:B)
  (e:∀Z:St->Prop,Z s'->RX E false (jH ops) (jc ops) 0 ops.toList st Z:=by intro Z hZ;simp (config := { maxSteps := 4000000 }) only[go_sem,seval,cR,cQ,ck, *];exact hZ):A:=d.p (eB fun Z hZ=>e Z (hZ _ (q.h k)))
def d2[d:Dp A (Wk E (.region id ops true) (ap E Q K) st)][q:Dh (ap E Q K .normal s') B](k:B)
  (e:∀Z:St->Prop,Z s'->RX E true (jH ops) (jc ops) 0 ops.toList st Z:=by intro Z hZ;simp (config := { maxSteps := 4000000 }) only[go_sem,seval,cR,cQ,ck, *];(repeat with_reducible refine mj (by kernel_rfl) ?_);exact hZ) (f:wH ops s'=true:=by kernel_rfl):A:=d.p (o5 fun Z hZ=>e Z (hZ _ f (q.h k)))
theorem e2{α:Sort _}{a b:α}[d:Dp A B](h:a=b)(e:a=b->B:=by intro h;cases h;simp only[go_sem,seval, *];exact⟨_,rfl,jV.h,vH.h⟩):A:=d.p (e h)
theorem f2{α:Sort _}{a b:α}[d:Dp A B](h:a=b)(e:a=b->B:=by intro h;cases h;simp only[go_sem,seval, *];exact⟨_,rfl,jV.h⟩):A:=d.p (e h)
def w2{n:Nat}{f g:Nat->C}{R R':Nat->C}(hr:XW R R':=by repeat' first|rfl|constructor|simp only[go_sem,seval,cY,cL,nj,nk, *])
  (ht:RW f R' g:=by repeat' first|rfl|constructor|simp only[go_sem,seval,cY,cL,nj,nk, *]):aM ⟨tab n f,R⟩ ⟨tab n g,R'⟩:=wr hr ht
end
class Fst (c:Code) (k:outParam Nat):Prop
instance {k:Nat} {ops:Array Oper} {b:Bool}:Fst (.region k ops b) k:=⟨⟩
instance {x y:Code} {k:Nat} [Fst x k]:Fst (.seq x y) k:=⟨⟩
class At (f:Nat->C) (t:Nat) (c:outParam C):Prop
instance (priority:=high) {f:Nat->C} {t:Nat} {c:C}:At (af f t c) t c:=⟨⟩
instance {f:Nat->C} {t k:Nat} {c x:C} [At f t c]:At (af f k x) t c:=⟨⟩
class AtR (f:Nat->C) (t:Nat) (c:outParam C):Prop
instance (priority:=high) {f:Nat->C} {t:Nat} {c:C}:AtR (upd f t c) t c:=⟨⟩
instance {f:Nat->C} {t k:Nat} {c x:C} [AtR f t c]:AtR (upd f k x) t c:=⟨⟩
class KP (l:List Nat) (f:Nat->C) (g:outParam (Nat->C)):Prop
instance {f:Nat->C}:KP [] f au:=⟨⟩
instance {f g:Nat->C} {t:Nat} {c:C} {l:List Nat} [At f t c] [KP l f g]:KP (t::l) f (af g t c):=⟨⟩
class KR (l:List Nat) (f:Nat->C) (g:outParam (Nat->C)):Prop
instance {f:Nat->C}:KR [] f RZ:=⟨⟩
instance {f g:Nat->C} {t:Nat} {c:C} {l:List Nat} [AtR f t c] [KR l f g]:KR (t::l) f (upd g t c):=⟨⟩
class Snd (c:Code) (k:outParam Nat):Prop
instance {o:Operand} {x y:Code} {k:Nat} [Snd y k]:Snd (.cond o x y) k:=⟨⟩
instance:Snd .skip 0:=⟨⟩
class JJ (k q:Nat):Prop
class DJ (A:Prop) (B:outParam Prop) (k q:outParam Nat):Prop where
 p:B->A
section
variable {E:Env} {Q:Exit->St->Prop} {K:List Fm} {st:St} {x y:Code} {i k q:Nat} {B:Prop}
instance [Fst x k] [Snd y q] [JJ k q]:DJ (Wk E (.seq x y) (ap E Q K) st) (Wk E (.seq x y) (ap E Q K) st) k q:=⟨id⟩
instance [d:DJ (Wk E x (ap E Q (.sk y::K)) st) B k q]:DJ (Wk E (.seq x y) (ap E Q K) st) B k q:=⟨fun h=>aN (d.p h)⟩
instance [d:DJ (Wk E x (ap E Q (.bl i::K)) st) B k q]:DJ (Wk E (.block i x) (ap E Q K) st) B k q:=⟨fun h=>aK (d.p h)⟩
instance {A D:Prop} [p:Pop A D] [d:DJ D B k q]:DJ A B k q:=⟨fun h=>p.pop (d.p h)⟩
instance [d:DJ (ap E Q K .normal st) B k q]:DJ (Wk E .skip (ap E Q K) st) B k q:=⟨fun h=>bm (d.p h)⟩
end
class J0 (k q:Nat) (l m:outParam (List Nat)) (D R:outParam ((Nat->C)->Nat->C)):Prop
class J1 (k q:Nat) (l m:outParam (List Nat)) {T0:outParam Type} (D R:outParam ((Nat->C)->T0->Nat->C)):Prop
instance {k q:Nat} {l m:List Nat} {T0:Type} {D R:(Nat->C)->T0->Nat->C} [J1 k q l m D R]:JJ k q:=⟨⟩
class J2 (k q:Nat) (l m:outParam (List Nat)) {T0 T1:outParam Type} (D R:outParam ((Nat->C)->T0->T1->Nat->C)):Prop
class J3 (k q:Nat) (l m:outParam (List Nat)) {T0 T1 T2:outParam Type} (D R:outParam ((Nat->C)->T0->T1->T2->Nat->C)):Prop
class J4 (k q:Nat) (l m:outParam (List Nat)) {T0 T1 T2 T3:outParam Type} (D R:outParam ((Nat->C)->T0->T1->T2->T3->Nat->C)):Prop
class LF (k:Nat) (l m:outParam (List Nat)) {β:Type} (D R:outParam ((Nat->C)->β->Nat->C)):Prop
class LT (k:Nat) (l m:outParam (List Nat)) {β:Type} (t:outParam Nat) (D R:outParam ((Nat->C)->Nat->β->Nat->C)):Prop
class LX (k:Nat) (l m:outParam (List Nat)) {β:Type} (t:outParam Nat) (D R:outParam ((Nat->C)->Nat->β->Nat->C)):Prop
class LC (k:Nat) (l m:outParam (List Nat)) {β:Type} (t j:outParam Nat) (D R:outParam ((Nat->C)->Nat->β->Nat->C)):Prop
section
variable {E:Env} {Q:Exit->St->Prop} {K:List Fm} {st s':St} {id:Nat} {ops:Array Oper} {x y c:Code} {P A B H:Prop} {α β ρ T0 T1 T2 T3:Type} {r:ρ} {n k q:Nat} {f R g R':Nat->C} {l:List α} {kt kr:List Nat}
def gJ0{D D':(Nat->C)->Nat->C}{J:Option ρ}[d:DJ A (Wk E (.seq x y) (ap E Q K) ⟨tab n f,R⟩) k q][J0 k q kt kr D D'][KP kt f g][KR kr R R']
  (hx:(∀s,aM s ⟨tab n (D g),D' R'⟩->J=some r->Wk E y (ap E Q K) s)->H->Wk E x (ap E Q (.sk y::K)) ⟨tab n f,R⟩)
  (hJ:J=some r->Wk E y (ap E Q K) ⟨tab n (D g),D' R'⟩):H->A:=fun h=>d.p (acV ⟨tab n (D g),D' R'⟩ (fun w=>hx w h) hJ)
def gJ1{D D':(Nat->C)->T0->Nat->C}{J:T0->Option ρ}[d:DJ A (Wk E (.seq x y) (ap E Q K) ⟨tab n f,R⟩) k q][J1 k q kt kr D D'][KP kt f g][KR kr R R']
  (hx:(∀s,∀p0,aM s ⟨tab n (D g p0),D' R' p0⟩->J p0=some r->Wk E y (ap E Q K) s)->H->Wk E x (ap E Q (.sk y::K)) ⟨tab n f,R⟩)
  (hJ:∀p0,J p0=some r->Wk E y (ap E Q K) ⟨tab n (D g p0),D' R' p0⟩):H->A:=fun h=>d.p (aS (fun p0=>⟨tab n (D g p0),D' R' p0⟩) (fun w=>hx w h) hJ)
def gJ2{D D':(Nat->C)->T0->T1->Nat->C}{J:T0->T1->Option ρ}[d:DJ A (Wk E (.seq x y) (ap E Q K) ⟨tab n f,R⟩) k q][J2 k q kt kr D D'][KP kt f g][KR kr R R']
  (hx:(∀s,∀p0 p1,aM s ⟨tab n (D g p0 p1),D' R' p0 p1⟩->J p0 p1=some r->Wk E y (ap E Q K) s)->H->Wk E x (ap E Q (.sk y::K)) ⟨tab n f,R⟩)
  (hJ:∀p0 p1,J p0 p1=some r->Wk E y (ap E Q K) ⟨tab n (D g p0 p1),D' R' p0 p1⟩):H->A:=fun h=>d.p (IE (fun p0 p1=>⟨tab n (D g p0 p1),D' R' p0 p1⟩) (fun w=>hx w h) hJ)
def gJ3{D D':(Nat->C)->T0->T1->T2->Nat->C}{J:T0->T1->T2->Option ρ}[d:DJ A (Wk E (.seq x y) (ap E Q K) ⟨tab n f,R⟩) k q][J3 k q kt kr D D'][KP kt f g][KR kr R R']
  (hx:(∀s,∀p0 p1 p2,aM s ⟨tab n (D g p0 p1 p2),D' R' p0 p1 p2⟩->J p0 p1 p2=some r->Wk E y (ap E Q K) s)->H->Wk E x (ap E Q (.sk y::K)) ⟨tab n f,R⟩)
  (hJ:∀p0 p1 p2,J p0 p1 p2=some r->Wk E y (ap E Q K) ⟨tab n (D g p0 p1 p2),D' R' p0 p1 p2⟩):H->A:=fun h=>d.p (ac4 (fun p0 p1 p2=>⟨tab n (D g p0 p1 p2),D' R' p0 p1 p2⟩) (fun w=>hx w h) hJ)
def gJ4{D D':(Nat->C)->T0->T1->T2->T3->Nat->C}{J:T0->T1->T2->T3->Option ρ}[d:DJ A (Wk E (.seq x y) (ap E Q K) ⟨tab n f,R⟩) k q][J4 k q kt kr D D'][KP kt f g][KR kr R R']
  (hx:(∀s,∀p0 p1 p2 p3,aM s ⟨tab n (D g p0 p1 p2 p3),D' R' p0 p1 p2 p3⟩->J p0 p1 p2 p3=some r->Wk E y (ap E Q K) s)->H->Wk E x (ap E Q (.sk y::K)) ⟨tab n f,R⟩)
  (hJ:∀p0 p1 p2 p3,J p0 p1 p2 p3=some r->Wk E y (ap E Q K) ⟨tab n (D g p0 p1 p2 p3),D' R' p0 p1 p2 p3⟩):H->A:=fun h=>d.p (adt (fun p0 p1 p2 p3=>⟨tab n (D g p0 p1 p2 p3),D' R' p0 p1 p2 p3⟩) (fun w=>hx w h) hJ)
def gLF{b0:β}{D D':(Nat->C)->β->Nat->C}{L:Nat->β->Option ρ}{N:Nat}[d:Dp A (Wk E (.loop c) (ap E Q K) ⟨tab n f,R⟩)][Fst c k][LF k kt kr D D'][KP kt f g][KR kr R R'](h0:aM ⟨tab n f,R⟩ ⟨tab n (D g b0),D' R' b0⟩)
  (hr:∀N b,L N b=some r->Wk E c (ap E Q (.lp (fun s=>∃n',n'<N/\∃b',aM s ⟨tab n (D g b'),D' R' b'⟩/\L n' b'=some r)::K)) ⟨tab n (D g b),D' R' b⟩):L N b0=some r->A:=fun h=>d.p (dw (fun b=>⟨tab n (D g b),D' R' b⟩) b0 h h0 fun n b h _=>hr n b h)
def gLT{t:Nat}{b0:β}{D D':(Nat->C)->Nat->β->Nat->C}{L:List α->Nat->β->Option ρ}{o:Bool}{nl:Option Bool}{es:Nat}{cap:Option Nat}{rows:List (List C)}[d:Dp A (Wk E (.loop c) (ap E Q K) ⟨tab n f,R⟩)][Fst c k][LT k kt kr t D D'][KP kt f g][KR kr R R']
  (h0:aM ⟨tab n f,R⟩ ⟨tab n (D g 0 b0),D' R' 0 b0⟩) (ht:t<n) (hv:f t=.sl o nl es cap rows) (hm:rows.length=l.length)
  (hn:∀i b,¬i<l.length->L [] i b=some r->Wk E c (ap E Q (.lp (fun s=>i<l.length/\∃b',aM s ⟨tab n (D g (i+1) b'),D' R' (i+1) b'⟩/\L (l.drop (i+1)) (i+1) b'=some r)::K)) ⟨tab n (D g i b),D' R' i b⟩)
  (hc:∀i b x,i<l.length->l[i]?=some x->IntKind.i64.wrap ((i:Int)+1)=((i+1:Nat):Int)->L (x::l.drop (i+1)) i b=some r->Wk E c (ap E Q (.lp (fun s=>i<l.length/\∃b',aM s ⟨tab n (D g (i+1) b'),D' R' (i+1) b'⟩/\L (l.drop (i+1)) (i+1) b'=some r)::K)) ⟨tab n (D g i b),D' R' i b⟩):L l 0 b0=some r->A:=
 fun h=>d.p (lG (fun i b=>⟨tab n (D g i b),D' R' i b⟩) b0 h h0 (fun q=>hm▸q.lenT t ht hv) hn hc)
def gLX{t:Nat}{b0:β}{D D':(Nat->C)->Nat->β->Nat->C}{L:List α->Nat->β->Option ρ}{nl:Option Bool}{es:Nat}{cap:Option Nat}{rows:List (List C)}[d:Dp A (Wk E (.loop c) (ap E Q K) ⟨tab n f,R⟩)][Fst c k][LX k kt kr t D D'][KP kt f g][KR kr R R']
  (h0:aM ⟨tab n f,R⟩ ⟨tab n (D g 0 b0),D' R' 0 b0⟩) (hv:R t=.sl true nl es cap rows) (hm:rows.length=l.length)
  (hn:∀i b,¬i<l.length->L [] i b=some r->Wk E c (ap E Q (.lp (fun s=>i<l.length/\∃b',aM s ⟨tab n (D g (i+1) b'),D' R' (i+1) b'⟩/\L (l.drop (i+1)) (i+1) b'=some r)::K)) ⟨tab n (D g i b),D' R' i b⟩)
  (hc:∀i b x,i<l.length->l[i]?=some x->IntKind.i64.wrap ((i:Int)+1)=((i+1:Nat):Int)->L (x::l.drop (i+1)) i b=some r->Wk E c (ap E Q (.lp (fun s=>i<l.length/\∃b',aM s ⟨tab n (D g (i+1) b'),D' R' (i+1) b'⟩/\L (l.drop (i+1)) (i+1) b'=some r)::K)) ⟨tab n (D g i b),D' R' i b⟩):L l 0 b0=some r->A:=
 fun h=>d.p (lG (fun i b=>⟨tab n (D g i b),D' R' i b⟩) b0 h h0 (fun q=>hm▸q.lenX t hv) hn hc)
def gLC{t j:Nat}{b0:β}{D D':(Nat->C)->Nat->β->Nat->C}{L:List α->Nat->β->Option ρ}{o o':Bool}{nl nl':Option Bool}{es es':Nat}{cap cap':Option Nat}{rows:List (List C)}{row:List C}[d:Dp A (Wk E (.loop c) (ap E Q K) ⟨tab n f,R⟩)][Fst c k][LC k kt kr t j D D'][KP kt f g][KR kr R R']
  (h0:aM ⟨tab n f,R⟩ ⟨tab n (D g 0 b0),D' R' 0 b0⟩) (ht:R t=.sl o nl es cap [row]) (hv:row[j]?=some (.sl o' nl' es' cap' rows)) (hm:rows.length=l.length)
  (hn:∀i b,¬i<l.length->L [] i b=some r->Wk E c (ap E Q (.lp (fun s=>i<l.length/\∃b',aM s ⟨tab n (D g (i+1) b'),D' R' (i+1) b'⟩/\L (l.drop (i+1)) (i+1) b'=some r)::K)) ⟨tab n (D g i b),D' R' i b⟩)
  (hc:∀i b x,i<l.length->l[i]?=some x->IntKind.i64.wrap ((i:Int)+1)=((i+1:Nat):Int)->L (x::l.drop (i+1)) i b=some r->Wk E c (ap E Q (.lp (fun s=>i<l.length/\∃b',aM s ⟨tab n (D g (i+1) b'),D' R' (i+1) b'⟩/\L (l.drop (i+1)) (i+1) b'=some r)::K)) ⟨tab n (D g i b),D' R' i b⟩):L l 0 b0=some r->A:=
 fun h=>d.p (lG (fun i b=>⟨tab n (D g i b),D' R' i b⟩) b0 h h0 (fun q=>hm▸q.cell t j ht hv) hn hc)
def eF{N:Nat}{b':β}{mk:β->St}{L:Nat->β->Option ρ}{s:St}(hw:aM s (mk b')):L N b'=some r->∃n',n'<N+1/\∃b',aM s (mk b')/\L n' b'=some r:=fun h=>⟨_,cZ _,_,hw,h⟩
def eR{i N:Nat}{b':β}{mk:β->St}{L:β->Option ρ}{s:St}(hi:i<N)(hw:aM s (mk b')):L b'=some r->i<N/\∃b',aM s (mk b')/\L b'=some r:=fun h=>⟨hi,_,hw,h⟩
end
def go{A:Prop}(e:A:=by
 revert h;repeat' first
  |(with_reducible refine oB ?_;intro _ _)
  |(with_reducible refine oN (by assumption) ?_)
  |(with_reducible refine oM ?_;intro _ _ _)
  |(with_reducible refine oG ?_;intro _ _ _)
  |(with_reducible refine oA ?_;intro _)
  |(with_reducible refine oX ?_;(try conv=>lhs;simp only[cu,nE,cR,nu]);intro _;(try conv=>lhs;simp only[cu,nE,cR,nu]))
  |(with_reducible refine oAp ?_;intro _)
  |(with_reducible refine oT ?_;intro _ _)
  |(with_reducible refine oS ?_;intro _)
  |(with_reducible refine oC ?_;intro _ _ _)
  |(with_reducible refine oV ?_;intro _ _)
  |(with_reducible refine oH ?_;intro _ _)
  |(with_reducible refine oL ?_;intro _)
  |(intro h;refine hJ _ ?_ h;exact wR)
  |(intro h;refine hJ _ _ ?_ h;exact wR)
  |(intro h;refine hJ _ _ _ ?_ h;exact wR)
  |(intro h;refine hJ _ _ _ _ ?_ h;exact wR)
  |(intro h;refine hK _ ?_ h;exact wR)
  |(intro h;refine hK _ _ ?_ h;exact wR)
  |(intro h;refine hK _ _ _ ?_ h;exact wR)
  |(intro h;refine hK _ _ _ _ ?_ h;exact wR)
  |(intro h;refine hL _ ?_ h;exact wR)
  |(intro h;refine hL _ _ ?_ h;exact wR)
  |(intro h;refine hL _ _ _ ?_ h;exact wR)
  |(intro h;refine hL _ _ _ _ ?_ h;exact wR)
  |(refine gp (eF ?_);exact wR)
  |(refine gp (eR (by assumption) ?_);exact wR)
  |(with_reducible refine oI ?_)
  |(with_reducible refine oP (by assumption) ?_)
  |(with_reducible refine oO (by assumption) ?_)
  |(with_reducible refine fun _=>(?_:_=some _->_);conv=>lhs;lhs;whnf)
  |(with_reducible refine fun _ _=>(?_:_=some _->_);conv=>lhs;lhs;whnf)
  |(with_reducible refine fun _ _ _=>(?_:_=some _->_);conv=>lhs;lhs;whnf)
  |(with_reducible refine fun _ _ _ _=>(?_:_=some _->_);conv=>lhs;lhs;whnf)
  |(apply gJ1;(try have hL:=hK);(try have hK:=hJ);intro hJ)
  |(apply gJ2;(try have hL:=hK);(try have hK:=hJ);intro hJ)
  |(apply gJ3;(try have hL:=hK);(try have hK:=hJ);intro hJ)
  |(apply gJ4;(try have hL:=hK);(try have hK:=hJ);intro hJ)
  |(apply gJ0;(try have hL:=hK);(try have hK:=hJ);intro hJ)
  | refine gz (by intro Z hZ;simp (config := { maxSteps := 4000000 }) only[go_sem,seval,cR,cQ, *];exact hZ) ?_
  | refine gd (by intro Z hZ;simp (config := { maxSteps := 4000000 }) only[go_sem,seval,cR,cQ, *];(repeat with_reducible refine mj (by kernel_rfl) ?_);exact hZ) (by kernel_rfl) ?_
  |(with_reducible refine gV hZ ?_)
  |(with_reducible refine gVd hZ (by kernel_rfl) ?_)
  |(refine gY fun Z hZ=>?_;(conv=>rhs;simp (config := { maxSteps := 4000000 }) only[go_sem,seval,cR,cQ, *]);first|with_reducible refine gR ?_|with_reducible refine gV hZ ?_|with_reducible refine gVd hZ (by kernel_rfl) ?_)
  |(refine gYd fun Z hZ=>?_;(conv=>rhs;simp (config := { maxSteps := 4000000 }) only[go_sem,seval,cR,cQ, *]);first|with_reducible refine gR ?_|with_reducible refine gV hZ ?_|with_reducible refine gVd hZ (by kernel_rfl) ?_)
  |(refine gt ?_)
  |(refine gf ?_)
  |(refine gB ?_ ?_<;>intro _)
  |(refine gM ?_ ?_<;>intro _)
  |(refine gD ?_ ?_<;>intro _)
  |(refine gN ?_ ?_<;>intro _)
  |(with_reducible refine oQ ?_ ?_<;>intro _)
  |(with_reducible refine oD ?_ ?_<;>intro _)
  |(with_reducible refine gR ?_;(conv=>rhs;simp (config := { maxSteps := 4000000 }) only[go_sem,seval,cR,cQ, *]);first|with_reducible refine gV hZ ?_|with_reducible refine gVd hZ (by kernel_rfl) ?_)
  | refine gE (by intro h;cases h;simp only[go_sem,seval,cR,cQ, *];first|exact⟨_,rfl,jV.h,vH.h⟩|exact⟨_,rfl,jV.h⟩)
  |(refine gLF (by exact wR) fun N _=>?_;cases N<;>(conv=>lhs;lhs;whnf);focus (intro h;cases h))
  |(refine gLT (by exact wR) (by decide) (by rfl) (by first|rw[cr]|rw[Bz]|rw[<-cW,cr]) (fun _ _ _=>?_) (fun _ _ _ _ _ _=>?_)<;>(conv=>lhs;lhs;whnf))
  |(refine gLC (by exact wR) (by rfl) (by rfl) (by first|rw[cr]|rw[Bz]|rw[<-cW,cr]) (fun _ _ _=>?_) (fun _ _ _ _ _ _=>?_)<;>(conv=>lhs;lhs;whnf))
  |(refine gLX (by exact wR) (by rfl) (by first|rw[cr]|rw[Bz]|rw[<-cW,cr]) (fun _ _ _=>?_) (fun _ _ _ _ _ _=>?_)<;>(conv=>lhs;lhs;whnf))
  |(refine oB ?_;intro _ _)
  |((conv=>lhs;lhs;whnf);first
   |(with_reducible refine oB ?_;intro _ _)
   |(with_reducible refine oN (by assumption) ?_)
   |(with_reducible refine oM ?_;intro _ _ _)
   |(with_reducible refine oG ?_;intro _ _ _)
   |(with_reducible refine oA ?_;intro _)
   |(with_reducible refine oX ?_;(try conv=>lhs;simp only[cu,nE,cR,nu]);intro _;(try conv=>lhs;simp only[cu,nE,cR,nu]))
   |(with_reducible refine oAp ?_;intro _)
   |(with_reducible refine oT ?_;intro _ _)
   |(with_reducible refine oS ?_;intro _)
   |(with_reducible refine oC ?_;intro _ _ _)
   |(with_reducible refine oV ?_;intro _ _)
   |(with_reducible refine oH ?_;intro _ _)
   |(with_reducible refine oL ?_;intro _)
   |(with_reducible refine oP (by assumption) ?_)
   |(with_reducible refine oO (by assumption) ?_)
   |(with_reducible refine oQ ?_ ?_<;>intro _)
   |(with_reducible refine oD ?_ ?_<;>intro _))):A:=e
def oZa{p:Prop}(e:p:=by simp only[go_sem,seval];rfl):p:=e
def oZb{p:Prop}(e:p:=by simp only[go_sem,seval]):p:=e
def oZc{p:Prop}(e:p:=by kernel_rfl):p:=e
end Go.Abs
