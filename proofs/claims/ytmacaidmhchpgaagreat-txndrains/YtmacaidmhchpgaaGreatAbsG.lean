/- A library of readings of Go values with their ownership,and of walks on them. No statement of the program. -/
import Derived.Test.YtmacaidmhchpgaaGreatAbsF
import Derived.Shelf.SlSortCmp.Whole1
import Derived.Shelf.SlSortCmp.WholeK
import Derived.Shelf.Sort.Plain
import Derived.KernelRfl
set_option linter.defProp false
set_option linter.unusedSimpArgs false
set_option linter.unusedVariables false
namespace Go.Abs
open Go.Proofs Go.Sort Go.Shelf Go.RowKit Go.Lib
def FrK.grown {w w':World} (h:FrK w (fun _=>False) w'):∃ q os,w'=grow (w.drewN q) os:=by
 refine ⟨w'.drawn - w.drawn,w'.heap.extract w.heap.size w'.heap.size,?_⟩;have hh:w'.heap=w.heap++w'.heap.extract w.heap.size w'.heap.size:=by
  apply ado;intro i;have hs:=h.size;rw [adH];by_cases hi:i < w.heap.size
  ·rw [if_pos hi]; exact h.block i hi id
  ·rw [if_neg hi,Array.getElem?_extract];by_cases h2:i < w'.heap.size
   ·rw [if_pos (by omega)]; congr 1; omega
   ·rw [if_neg (by omega)]; exact adU (by omega)
 have h1:=h.drawn; have h2:=h.os; have h3:=h.tape; have h4:=h.output;obtain ⟨a,b,c,d,e⟩:=w;obtain ⟨a',b',c',d',e'⟩:=w';simp only at h1 h2 h3 h4 hh;simp only [grow,World.drewN];subst h2 h3 h4;have:c+(c' - c)=c':=by omega
 rw [this,<-hh]
section
variable {α:Type} [Inhabited α] {enc:α->Value} {w:World} {blk0 off m:Nat} {d:Array α} {os:Array Obj}
def Dt {b:Nat} (h:b≠blk0) (hb:b < w.heap.size):(sortWorld enc w blk0 off m d os).heap[b]?=w.heap[b]?:=by
 show ((w.heap.modify blk0 _)++os)[b]?=_;rw [adH,if_pos (by simpa using hb),acD,if_neg (xG h)]
theorem Hh {arr:Array Value} {e:TypeId} {fz:Nat × Nat} (h:w.heap[blk0]?=some (.cells arr e fz)):(sortWorld enc w blk0 off m d os).heap[blk0]?=some (.cells (putCells enc off d arr) e fz):=by
 have hb:blk0 < w.heap.size:=(nc.1 h).1;show ((w.heap.modify blk0 _)++os)[blk0]?=_;rw [adH,if_pos (by simpa using hb),acD,if_pos rfl,h];rfl
def Fv:w.heap.size<=(sortWorld enc w blk0 off m d os).heap.size:=by
 show _<=((w.heap.modify blk0 _)++os).size;simp
end
def P6 {α:Type} {row:α->List C} {enc:α->List Value} (hrow:∀ x,row x=(enc x).map .val) {l:List α} {nl:Option Bool} {es:Nat} {cap:Option Nat} {p:aq} (h:ak (.sl true nl es cap (l.map row)) p):p=[]:=by
 cases p with
 | nil=>rfl
 | cons s p=>
  exfalso;simp only [ak,C.at,C.kid,cv] at h;cases hx:l[s.1]? with
  | none=>simp [hx] at h
  | some x=>
   simp only [hx,cx,cc,hrow,cv] at h;cases hy:(enc x)[s.2]? with
   | none=>simp [hy] at h
   | some y=>
    simp only [hy,cx,cc] at h;cases p with
    | nil=>simp [C.at,C.isOwn] at h
    | cons s' p=>simp [C.at,C.kid] at h
def PK {cs:List C} {n:Nat} {p:aq} (h:ak (Rl 1 cs n) p):n=0:=by
 unfold Rl at h;split at h
 ·omega
 ·exact (aM h).elim
noncomputable def DN {α:Type} [Inhabited α] (c:α->α->Option Int) (l:List α):Option (List α):=by
 classical exact
 if (∀ x y,∃ r,c x y=some r)/\SWO (ltOf fun x y=>(c x y).getD 0)/\l.length < 4611686018427387904 then some (pdq (ltOf fun x y=>(c x y).getD 0) l.toArray 0 l.length (Lib.bitLen l.length) true true).toList else none
def MJ {α:Type} [Inhabited α] {c:α->α->Option Int} {l r:List α} (h:DN c l=some r) :
  (∀ x y,∃ r,c x y=some r)/\SWO (ltOf fun x y=>(c x y).getD 0)/\l.length < 4611686018427387904/\r=(pdq (ltOf fun x y=>(c x y).getD 0) l.toArray 0 l.length (Lib.bitLen l.length) true true).toList:=by
 unfold DN at h;split at h
 ·rename_i hc; cases h; exact ⟨hc.1,hc.2.1,hc.2.2,rfl⟩
 ·cases h
def JU {α:Type} [Inhabited α] {c:α->α->Option Int} {l r:List α} (h:DN c l=some r):r.Perm l/\r.Pairwise fun a b=>¬ (c b a).getD 0 < 0:=by
 obtain ⟨_,hO,_,rfl⟩:=MJ h;have:=pdq_sorts (ltOf fun x y=>(c x y).getD 0) hO l.toArray 0 l.toArray.size (Lib.bitLen l.toArray.size) true true (cT _) (cr _) (Or.inl rfl);simp only [nO] at this;generalize pdq (ltOf fun x y=>(c x y).getD 0) l.toArray 0 l.length (Lib.bitLen l.length) true true=d at this ⊢;obtain ⟨⟨h1,_,h3⟩,h4⟩:=this;simp only [nO] at h1;constructor
 ·have e1:d.extract 0 l.length=d:=by rw [<-h1]; simp
  have e2:l.toArray.extract 0 l.length=l.toArray:=by simp
  rw [e1,e2] at h3;simpa using h3
 ·rw [na];intro i j hi hj hij;have hi':i < d.size:=by simpa using hi
  have hj':j < d.size:=by simpa using hj
  have:=h4 i j (cT _) hij (by omega);rw [getElem!_pos d j hj',getElem!_pos d i hi',ltOf] at this;simpa using this
def VY {α:Type} [Inhabited α] {c:α->α->Option Int} {l r:List α} (h:DN c l=some r):r.length=l.length:=(JU h).1.length_eq
theorem Xj {α:Type} [Inhabited α] {c:α->α->Option Int} {l:List α} (h1:∀ x y,∃ r,c x y=some r) (h2:SWO (ltOf fun x y=>(c x y).getD 0)) (h3:l.length < 4611686018427387904):∃ r,DN c l=some r:=by
 unfold DN;rw [if_pos ⟨h1,h2,h3⟩];exact ⟨_,rfl⟩
end Go.Abs
namespace Go.Abs
open Go.Proofs Go.Sort Go.Shelf Go.RowKit Go.Lib
theorem Pn {w:World} {S:Nat->Prop} {L:C->Value->Prop} {m:aq->Value} {o:Bool} {p:aq} (vs:List Value):rel w S L m o 2 p (.agg (vs.map .val)) (.agg vs.toArray):=by
 refine ⟨vs.toArray,rfl,by simp,fun j c' hc=>?_⟩;rw [cv] at hc;cases hv:vs[j]? with
 | none=>rw [hv] at hc; simp at hc
 | some v=>
  rw [hv] at hc;simp only [cx,cb] at hc;subst hc;exact ⟨v,by simpa using hv,rfl⟩
def RE {P:Program} {α:Type} [Inhabited α] {enc:α->List Value} {kk:Nat} {g:FuncId} (eg:∀ args w,(callFunc g args).run P w=.ok (.enter g args) w) {caps:List C} {cf:α->α->Int}
  (hcmp:∀ x y,∃ pu,Con P g [] pu ([.agg ((enc x).map .val),.agg ((enc y).map .val)]++caps) (.val (.int .i64 (cf x y)))) {w:World} {S:Nat->Prop} {b off n:Nat} {arr1:Array Value} (hS:∀ x,S x->x≠b) (hsz:arr1.size=caps.length)
  (hr:∀ (j:Nat) (c':C),caps[j]?=some c'->∃ u' d p,arr1[j]?=some u'/\rel w S L0 dm false d p c' u'):CmpLays P g arr1 enc kk cf b off n w:=by
 intro mm os dk hs x y;obtain ⟨pu,hc⟩:=hcmp x y;have hD:=hc (sortWorldK enc kk w b off mm dk os) S (fun _=>dm) ([.agg (enc x).toArray,.agg (enc y).toArray]++arr1.toList) (by simp [hsz]) (by
  intro i c hi
  match i with
  | 0=>simp only [nH,cu,cb] at hi; subst hi; exact ⟨_,2,rfl,Pn (enc x)⟩
  | 1=>simp only [nH,nn,cu,cb] at hi; subst hi; exact ⟨_,2,rfl,Pn (enc y)⟩
  | j+2=>
   simp only [nH,cK,nn] at hi;obtain ⟨u',d,p,e1,e2⟩:=hr j c hi;refine ⟨u',d,by simpa using e1,?_⟩;simp only [acL,ph];exact av (fun z hz hb=>⟨⟨hb,eS⟩,Dt (enc:=id) (d:=flatK enc kk dk) (hS z hb) hz⟩) d (fun _ _ _ h=>h) (fun h=>by simp at h) (fun h=>by simp at h) e2) (by
  intro n p n' p' z h1;rw [ph] at h1;exact (aM h1).elim)
 rcases hD with ⟨_,hD⟩|⟨u,w',hv,_⟩
 ·have ea:([Value.agg (enc x).toArray,Value.agg (enc y).toArray]++arr1.toList).toArray=#[Value.agg (enc x).toArray,Value.agg (enc y).toArray]++arr1:=by
   apply Array.ext'; simp
  rw [ea] at hD;refine hD.mono fun e w' h=>?_;obtain ⟨u,rfl,mr,d,q1,_,_,q4⟩:=h;have hu:u=.int .i64 (cf x y):=by
   cases d with
   | zero=>exact q1.elim
   | succ d=>exact q1
  subst hu;have hfr:FrK (sortWorldK enc kk w b off mm dk os) (fun _=>False) w':=⟨q4.os,q4.tape,q4.output,q4.drawn,q4.size,fun z hz _=>q4.block z hz (by rw [ph]; exact eS)⟩;exact ⟨rfl,hfr.grown⟩
 ·rw [eg] at hv; cases hv
def Zc {i k j:Nat} (h:j < k):(i * k+j) / k=i/\(i * k+j) % k=j:=by
 constructor
 ·rw [n7,adi (by omega),adj h]; rfl
 ·rw [n7,acY,acZ h]
def U6 {i k j n:Nat} (hi:i < n) (hj:j < k):i * k+j < n * k:=by
 have:=nv k (show i+1<=n from hi);rw [cI,Nat.one_mul] at this; omega
def VC {P:Program} {ρ:Ren} (L:SlLaysF0.n6 P ρ) {α:Type} [Inhabited α] (kk:Nat) (hk0:0 < kk) (aE:∀ w,(isAgg (ρ.t 24)).run P w=.ok true w) (zE:∀ w,(Go.sizeOf (ρ.t 24)).run P w=.ok kk w)
  (enc:α->List Value) (hk:∀ x,(enc x).length=kk) (h1:∀ x,∀ v∈enc x,v.oneCell'=true) (row:α->List C) (hrow:∀ x,row x=(enc x).map .val) {f g:FuncId} (hf:ρ.f 6=f)
  (ef:∀ args w,(callFunc f args).run P w=.ok (.enter f args) w) (eg:∀ args w,(callFunc g args).run P w=.ok (.enter g args) w) {caps:List C} {cf:α->α->Int} (hO:SWO (ltOf cf))
  (hcmp:∀ x y,∃ pu,Con P g [] pu ([.agg ((enc x).map .val),.agg ((enc y).map .val)]++caps) (.val (.int .i64 (cf x y)))) {l:List α} (hne:l≠[]) (hl:l.length < 4611686018427387904) (hgB:g < B0:=by decide) :
  mv P f 1 [.sl true none kk none (l.map row),.clo g caps] (.tup []) [.sl true none kk none ((pdq (ltOf cf) l.toArray 0 l.length (Lib.bitLen l.length) true true).toList.map row)]:=by
 intro w S m us hlen hrest hlent hinj;have hpos:0 < l.length:=xy.2 hne;obtain ⟨u0,d0,hu0,hd0,hr0⟩:=hlent 0 _ rfl (by omega);obtain ⟨u1,d1,hu1,hr1⟩:=hrest 1 _ rfl (by omega);have hus:us=[u0,u1]:=by
  match us,hlen,hu0,hu1 with
  | [x,y],_,h0,h1=>simp at h0 h1; rw [h0,h1]
 subst hus;cases d0 with
 | zero=>exact hr0.elim
 | succ d0=>
 obtain ⟨a,k,e1,e2,e3,e4,ez,e5,e6,e7⟩:=hr0;rw [cy] at e1 e2;rcases e7 with hk0'|⟨hb,_⟩|⟨b,off,arr,elem,frz,g1,g2,g3,g4,g5⟩
 ·omega
 ·simp at hb
 subst g1;obtain ⟨rfl,hfit⟩:=g4 rfl;have hu:u0=.slice (some ⟨b,off,none⟩) l.length k:=by
  simp only [Hd,dC] at hd0;rcases hd0 with h|⟨a,a',h,h'⟩
  ·rw [h,e1]
  ·rw [e1] at h';simp only [Value.slice.injEq] at h';omega
 subst hu;cases d1 with
 | zero=>exact hr1.elim
 | succ d1=>
 obtain ⟨arr1,hcv,hsz1,hcaps⟩:=hr1;have hcv2:Dw g arr1=.func (.func g) #[] arr1:=if_pos hgB;rw [hcv2] at hcv;subst hcv;have hown:ak (Rl 1 [C.sl true none kk none (l.map row),C.clo g caps] 0) []:=rfl;have hblk:blk (m 0 [])=some b:=by rw [e1]; simp only [blk]; rw [if_neg (by omega)]
 have hbsz:b < w.heap.size:=(nc.1 g2).1;have hlk:l.length * kk<=k * kk:=nv _ e2;have hcell:∀ i (hi:i < l.length) j (hj:j < kk),arr[off+(i * kk+j)]?=some ((enc l[i])[j]'(by rw [hk]; exact hj)):=by
  intro i hi j hj;have hrj:(l.map row)[i]?=some (row l[i]):=by rw [cv,cq hi]; rfl
  have hje:j < (enc l[i]).length:=by rw [hk]; exact hj
  obtain ⟨u',q1,q2⟩:=g5 i j (row l[i]) (.val ((enc l[i])[j]'hje)) hrj (by rw [hrow,cv,cq hje]; rfl);cases d0 with
  | zero=>exact q2.elim
  | succ d0=>
   have:u'=(enc l[i])[j]'hje:=q2;subst this;rw [<-nf]; exact q1
 have hH:HoldsK enc kk w b off l.toArray:=by
  intro t ht;have ht':t < l.length * kk:=by simpa using ht
  have hti:t / kk < l.length:=adX (by rw [n7]; exact ht');have htj:t % kk < kk:=Nat.mod_lt _ hk0;have hte:t=t / kk * kk+t % kk:=by rw [n7]; exact (Nat.div_add_mod t kk).symm
  have e:l.toArray[t / kk]! = l[t / kk]:=by rw [getElem!_pos l.toArray (t / kk) (by simpa using hti)]; simp
  have hje:t % kk < (enc l[t / kk]).length:=by rw [hk]; exact htj
  constructor
  ·simp only [World.cell?,g2,adp,cR,if_false];have:=hcell (t / kk) hti (t % kk) htj;rw [<-hte] at this;rw [this,get_flatK enc kk l.toArray t (by simpa using ht'),e,getElem!_pos (enc l[t / kk]) (t % kk) hje];rfl
  ·simp only [World.frozen?,g2];simp
 have hcl:CmpLays P g arr1 enc kk cf b off l.toArray.size w:=RE eg hcmp (S:=fun b'=>S b'/\¬ aG (Rl 1 [C.sl true none kk none (l.map row),C.clo g caps]) m b')
  (fun x hx e=>hx.2 (by subst e; exact ⟨0,[],hown,hblk⟩)) hsz1 (fun j c' hc'=>let ⟨u',q1,q2⟩:=hcaps j c' hc'; ⟨u',_,_,q1,q2⟩)
 have hcon:=AnyQ.slices_SortFunc_eq L kk aE zE enc hk h1 cf hO g arr1 b off k l.toArray w eg hcl hH hbsz (by simpa using hl);have hps:=(pdq_sorts (ltOf cf) hO l.toArray 0 l.toArray.size (Lib.bitLen l.toArray.size) true true (cT _) (cr _) (Or.inl rfl)).1.1;rw [hf] at hcon;simp only [nO] at hcon hps;generalize hd':pdq (ltOf cf) l.toArray 0 l.length (Lib.bitLen l.length) true true=d' at hcon hps ⊢;have hown':ak (Rl 1 [C.sl true none kk none (d'.toList.map row)] 0) []:=rfl;have hp0:∀ {n p},ak (Rl 1 [C.sl true none kk none (d'.toList.map row)] n) p->n=0/\p=[]:=by
  intro n p h;obtain rfl:=PK h;exact ⟨rfl,P6 hrow h⟩
 left;refine ⟨ef _ _,hcon.mono ?_⟩;rintro e w' ⟨rfl,n,os,rfl⟩;refine ⟨_,rfl,m,⟨1,#[],rfl,rfl,by simp⟩,?_,?_,?_,?_⟩
 ·intro i c hi
  match i with
  | i+1=>simp at hi
  | 0=>
  simp only [cu,cb] at hi;subst hi;refine ⟨rfl,m 0 [],2,?_⟩;have hdl:(d'.toList.map row).length=l.length:=by simp [hps]
  refine ⟨some ⟨b,off,none⟩,k,by rw [hdl,e1],by rw [hdl]; exact e2,e3,by simp,⟨by simp,by simp⟩,?_,fun _=>rfl,.inr (.inr ⟨b,off,putCells id off (flatK enc kk d') arr,elem,(0,0),rfl,Hh (enc:=id) (d:=flatK enc kk d') g2,by simp,fun _=>⟨rfl,by simpa [putCells] using hfit⟩,?_⟩)⟩
  ·intro r hr;obtain ⟨x,_,rfl⟩:=cE.1 hr;rw [hrow,cy,hk]
  ·intro i j r c' hi hj;rw [cv] at hi;cases hx:d'.toList[i]? with
   | none=>rw [hx] at hi; simp at hi
   | some x=>
    rw [hx] at hi;simp only [cx,cb] at hi;subst hi;rw [hrow,cv] at hj;cases hv:(enc x)[j]? with
    | none=>rw [hv] at hj; simp at hj
    | some v=>
    rw [hv] at hj;simp only [cx,cb] at hj;subst hj;have hjl:j < (enc x).length:=(cd.1 hv).1;have hjk:j < kk:=by rw [<-hk x]; exact hjl
    have hil:i < d'.size:=by have:=(cd.1 hx).1; simpa using this
    have hxi:d'[i]! = x:=by
     rw [getElem!_pos d' i hil];have:=(cd.1 hx).2;simpa using this
    have ht:i * kk+j < d'.size * kk:=U6 hil hjk;rw [hps] at ht;refine ⟨v,?_,rfl⟩;have hin:off+(i * kk+j) < arr.size:=by omega
    have hge:(flatK enc kk d')[i * kk+j]! = v:=by
     obtain ⟨q1,q2⟩:=Zc (i:=i) hjk;rw [get_flatK enc kk d' _ (by rw [hps]; exact ht),q1,q2,hxi,getElem!_pos (enc x) j hjl];exact (cd.1 hv).2
    rw [nf];simp only [putCells,aef];rw [acz hin,cx,if_pos ⟨by omega,by rw [size_flatK,hps]; omega⟩,show off+(i * kk+j) - off=i * kk+j by omega,hge];rfl
 ·intro n p n' p' z h1 h2 _ _;obtain ⟨rfl,rfl⟩:=hp0 h1;obtain ⟨rfl,rfl⟩:=hp0 h2;exact ⟨rfl,rfl⟩
 ·rintro z ⟨n,p,h1,h2⟩;obtain ⟨rfl,rfl⟩:=hp0 h1;exact .inr ⟨0,[],hown,h2⟩
 ·refine ⟨rfl,rfl,rfl,Nat.le_add_right _ _,Fv (enc:=id) (d:=flatK enc kk d'),fun z hz hno=>Dt (enc:=id) (d:=flatK enc kk d') ?_ hz⟩;rintro rfl;exact hno ⟨0,[],hown,hblk⟩
end Go.Abs
namespace Go.Abs
open Go.Proofs Go.Sort Go.Shelf Go.RowKit Go.Lib
def Ei (l:List Int):Option (List Int):=if l.length < 4611686018427387904 then some (l.mergeSort fun x y=>decide (x<=y)) else none
def LS {l r:List Int} (h:Ei l=some r):l.length < 4611686018427387904/\r=l.mergeSort fun x y=>decide (x<=y):=by
 unfold Ei at h;split at h
 ·rename_i hl; cases h; exact ⟨hl,rfl⟩
 ·cases h
def Kb {l r:List Int} (h:Ei l=some r):r.Perm l/\r.Pairwise (·<=·):=by
 obtain ⟨_,rfl⟩:=LS h;refine ⟨List.mergeSort_perm l _,?_⟩;have:=List.pairwise_mergeSort (le:=fun x y:Int=>decide (x<=y)) (fun a b c h1 h2=>by simp only [decide_eq_true_eq] at *; omega) (fun a b=>by simp only [ny,decide_eq_true_eq]; omega) l;exact this.imp (fun h=>by simpa using h)
def N8 {l r:List Int} (h:Ei l=some r):r.length=l.length:=(Kb h).1.length_eq
def UZ {P:Program} {ρ:Ren} (L:Lays.n189 P ρ) {f:FuncId} (hf:ρ.f 189=f) (ef:∀ args w,(callFunc f args).run P w=.ok (.enter f args) w) {l r:List Int} (hne:l≠[]) (hr:Ei l=some r) :
  mv P f 1 [.sl true none 1 none (l.map (aB .i64))] (.tup []) [.sl true none 1 none (r.map (aB .i64))]:=by
 obtain ⟨hl,he⟩:=LS hr;have hps:=N8 hr;intro w S m us hlen hrest hlent hinj;have hpos:0 < l.length:=xy.2 hne;obtain ⟨u0,d0,hu0,hd0,hr0⟩:=hlent 0 _ rfl (by omega);have hus:us=[u0]:=by
  match us,hlen,hu0 with
  | [x],_,h0=>simp at h0; rw [h0]
 subst hus;cases d0 with
 | zero=>exact hr0.elim
 | succ d0=>
 obtain ⟨a,k,e1,e2,e3,e4,ez,e5,e6,e7⟩:=hr0;rw [cy] at e1 e2;rcases e7 with hk0|⟨hb,_⟩|⟨b,off,arr,elem,frz,g1,g2,g3,g4,g5⟩
 ·omega
 ·simp at hb
 subst g1;obtain ⟨rfl,hfit⟩:=g4 rfl;have hu:u0=.slice (some ⟨b,off,none⟩) l.length k:=by
  simp only [Hd,dC] at hd0;rcases hd0 with h|⟨a,a',h,h'⟩
  ·rw [h,e1]
  ·rw [e1] at h';simp only [Value.slice.injEq] at h';omega
 subst hu;have hown:ak (Rl 1 [C.sl true none 1 none (l.map (aB .i64))] 0) []:=rfl;have hblk:blk (m 0 [])=some b:=by rw [e1]; simp only [blk]; rw [if_neg (by omega)]
 have hbsz:b < w.heap.size:=(nc.1 g2).1;have hcell:∀ j (hj:j < l.length),arr[off+j]?=some (.int .i64 l[j]):=by
  intro j hj;have hrj:(l.map (aB .i64))[j]?=some (aB .i64 l[j]):=by rw [cv,cq hj]; rfl
  obtain ⟨u',q1,q2⟩:=g5 j 0 (aB .i64 l[j]) (.val (.int .i64 l[j])) hrj rfl;cases d0 with
  | zero=>exact q2.elim
  | succ d0=>
   have:u'=.int .i64 l[j]:=q2;subst this;simpa using q1
 have hH:Holds (Value.int .i64) w b off l.toArray:=by
  intro j hj;have hj':j < l.length:=by simpa using hj
  have e:l.toArray[j]! = l[j]:=by rw [getElem!_pos l.toArray j hj]; simp
  constructor
  ·simp only [World.cell?,g2,adp,cR,if_false];rw [hcell j hj',e]
  ·simp only [World.frozen?,g2];simp
 have hcon:=Any.slices_Sort_int L b off k l w hH hbsz hl;rw [hf,<-he] at hcon;have hp0:∀ {n p},ak (Rl 1 [C.sl true none 1 none (r.map (aB .i64))] n) p->n=0/\p=[]:=by
  intro n p h;obtain rfl:=PK h;exact ⟨rfl,P6 (enc:=fun x=>[.int .i64 x]) (fun x=>rfl) h⟩
 left;refine ⟨ef _ _,hcon.mono ?_⟩;rintro e w' ⟨rfl,n,os,hw'⟩;have hw:w'=sortWorld (Value.int .i64) w b off n r.toArray os:=hw';subst hw;refine ⟨_,rfl,m,⟨1,#[],rfl,rfl,by simp⟩,?_,?_,?_,?_⟩
 ·intro i c hi
  match i with
  | i+1=>simp at hi
  | 0=>
  simp only [cu,cb] at hi;subst hi;refine ⟨rfl,m 0 [],2,?_⟩;have hdl:(r.map (aB .i64)).length=l.length:=by simp [hps]
  refine ⟨some ⟨b,off,none⟩,k,by rw [hdl,e1],by rw [hdl]; exact e2,e3,by simp,⟨by simp,by simp⟩,?_,fun _=>rfl,.inr (.inr ⟨b,off,putCells (Value.int .i64) off r.toArray arr,elem,(0,0),rfl,Hh g2,by simp,fun _=>⟨rfl,by simpa [putCells] using hfit⟩,?_⟩)⟩
  ·intro q hq;obtain ⟨x,_,rfl⟩:=cE.1 hq;rfl
  ·intro i j q c' hi hj;rw [cv] at hi;cases hx:r[i]? with
   | none=>rw [hx] at hi; simp at hi
   | some x=>
    rw [hx] at hi;simp only [cx,cb] at hi;subst hi
    match j with
    | j+1=>simp [aB] at hj
    | 0=>
    have hc:c'=.val (.int .i64 x):=by simpa [aB] using hj.symm
    subst hc;have hil:i < r.length:=(cd.1 hx).1;have hxi:r.toArray[i]! = x:=by
     rw [getElem!_pos r.toArray i (by simpa using hil)];have:=(cd.1 hx).2;simpa using this
    refine ⟨.int .i64 x,?_,rfl⟩;have hin:off+i < arr.size:=by omega
    simp only [putCells,aef,Nat.mul_one,n9];rw [acz hin,cx,if_pos ⟨by omega,by simp; omega⟩,show off+i - off=i by omega,hxi]
 ·intro n p n' p' z h1 h2 _ _;obtain ⟨rfl,rfl⟩:=hp0 h1;obtain ⟨rfl,rfl⟩:=hp0 h2;exact ⟨rfl,rfl⟩
 ·rintro z ⟨n,p,h1,h2⟩;obtain ⟨rfl,rfl⟩:=hp0 h1;exact .inr ⟨0,[],hown,h2⟩
 ·refine ⟨rfl,rfl,rfl,Nat.le_add_right _ _,Fv,fun z hz hno=>Dt ?_ hz⟩;rintro rfl;exact hno ⟨0,[],hown,hblk⟩
end Go.Abs
namespace Go.Abs
def fN (V:List (List Value)):List (List C):=V.map (·.map .val)
def pick {α:Type} (idx:List Nat) (L:List (List α)):List (List α):=idx.map fun k=>(L[k]?).getD []
structure QU (w:World) (S:Nat->Prop) (m:aq->Value) (rows:List (List C)) (V:List (List Value)) (D:Nat):Prop where
 len:V.length=rows.length
 cell:∀ (i j:Nat) row c,rows[i]?=some row->row[j]?=some c->∃ vr v,V[i]?=some vr/\vr[j]?=some v/\rel w S L0 m true D [(i,j)] c v
 wid:∀ (i:Nat) row vr,rows[i]?=some row->V[i]?=some vr->vr.length=row.length
def Om (V:List (List Value)):∀ row∈fN V,∀ c∈row,bU c:=by
 intro row hr c hc;obtain ⟨vr,_,rfl⟩:=cE.1 hr;obtain ⟨v,_,rfl⟩:=cE.1 hc;exact bU.val v
theorem Xs {w:World} {S S':Nat->Prop} {m:aq->Value} {nl:Option Bool} {es:Nat} {cap:Option Nat} {rows:List (List C)} {u:Value} {d:Nat} (h:rel w S L0 m true d [] (.sl true nl es cap rows) u) :
  ∃ V D,QU w S m rows V D/\(∀ vr∈V,vr.length=es)/\rel w S' L0 m true 2 [] (.sl true nl es cap (fN V)) u:=by
 cases d with
 | zero=>exact h.elim
 | succ d=>
 obtain ⟨a,k,h1,h2,h3,h4,hz,h5,h6,h7⟩:=h;rcases h7 with hk|⟨hb,_⟩|⟨b,off,arr,elem,frz,g1,g2,g3,g4,g5⟩
 ·have hr:rows=[]:=adC.1 (by omega);subst hr;exact ⟨[],0,⟨rfl,by simp,by simp⟩,by simp,⟨a,k,h1,h2,h3,h4,hz,by simp [fN],h6,.inl hk⟩⟩
 ·simp at hb
 ·have hlen:∀ i (hi:i < rows.length),rows[i].length=es:=fun i hi=>h5 _ (nx hi);refine ⟨rows.mapIdx fun i row=>row.mapIdx fun j _=>(arr[off+i * es+j]?).getD undef,d,⟨by simp,?_,?_⟩,?_,?_⟩
  ·intro i j row c hi hj;obtain ⟨u',e1,e2⟩:=g5 i j row c hi hj;refine ⟨_,u',by rw [xA,hi]; rfl,by rw [xA,hj,e1]; rfl,?_⟩;simpa using e2
  ·intro i row vr hi hv;rw [xA,hi] at hv;simp only [cx,cb] at hv;subst hv; simp
  ·intro vr hv;obtain ⟨i,hi⟩:=nV.1 hv;rw [xA] at hi;cases hr:rows[i]? with
   | none=>rw [hr] at hi; simp at hi
   | some row=>
    rw [hr] at hi;simp only [cx,cb] at hi;subst hi;simp only [aeh];exact h5 _ (cg hr)
  ·refine ⟨a,k,by simpa [fN] using h1,by simpa [fN] using h2,h3,h4,hz,?_,h6,.inr (.inr ⟨b,off,arr,elem,frz,g1,g2,by simp,g4,?_⟩)⟩
   ·intro row hrow;obtain ⟨vr,hv,rfl⟩:=cE.1 hrow;obtain ⟨i,hi⟩:=nV.1 hv;rw [xA] at hi;cases hr:rows[i]? with
    | none=>rw [hr] at hi; simp at hi
    | some row=>
     rw [hr] at hi;simp only [cx,cb] at hi;subst hi;simp only [cy,aeh];exact h5 _ (cg hr)
   ·intro i j row c' hi hj;simp only [fN,cv,xA] at hi;cases hr:rows[i]? with
    | none=>rw [hr] at hi; simp at hi
    | some row0=>
     rw [hr] at hi;simp only [cx,cb] at hi;subst hi;simp only [cv,xA] at hj;cases hc:row0[j]? with
     | none=>rw [hc] at hj; simp at hj
     | some c0=>
      rw [hc] at hj;simp only [cx,cb] at hj;subst hj;obtain ⟨u',e1,_⟩:=g5 i j row0 c0 hr hc;exact ⟨u',e1,by rw [e1]; rfl⟩
def K9 (c:C):Bool:=match c with
 | .val v=>v.oneCell'
 | .sl ..=>true
 | _=>false
def YK {w:World} {S:Nat->Prop} {L:C->Value->Prop} {m:aq->Value} {o:Bool} {d:Nat} {p:aq} {c:C} {u:Value} (h:rel w S L m o d p c u) (hc:K9 c=true):u.oneCell'=true:=by
 cases d with
 | zero=>exact h.elim
 | succ d=>
  cases c<;>simp only [K9] at hc
  case val v=>have:u=v:=h; rw [this]; exact hc
  case sl=>obtain ⟨a,k,h1,_⟩:=h; rw [h1]; rfl
  all_goals cases hc
def QU.one {w:World} {S:Nat->Prop} {m:aq->Value} {rows:List (List C)} {V:List (List Value)} {D:Nat} (h:QU w S m rows V D) (hr:∀ row∈rows,∀ c∈row,K9 c=true):∀ vr∈V,∀ v∈vr,v.oneCell'=true:=by
 intro vr hvr v hv;obtain ⟨i,hi⟩:=nV.1 hvr;obtain ⟨j,hj⟩:=nV.1 hv;have hil:i < rows.length:=by rw [<-h.len]; exact (cd.1 hi).1
 have hrow:rows[i]?=some rows[i]:=cq hil;have hjl:j < rows[i].length:=by rw [<-h.wid i _ _ hrow hi]; exact (cd.1 hj).1
 have hc:rows[i][j]?=some rows[i][j]:=cq hjl;obtain ⟨vr',v',e1,e2,e3⟩:=h.cell i j _ _ hrow hc;rw [hi] at e1; cases e1;rw [hj] at e2; cases e2;exact YK e3 (hr _ (nx _) _ (nx _))
def Us {es:Nat} {nl nl':Option Bool} {cap cap':Option Nat} {idx:List Nat} {R:List (List C)} {i j:Nat} {q:aq} (h:ak (.sl true nl es cap (pick idx R)) ((i,j)::q)) :
  i < idx.length/\ak (.sl true nl' es cap' R) ((idx.getD i 0,j)::q):=by
 simp only [ak,C.at,C.kid,pick,cv] at h;cases hi:idx[i]? with
 | none=>simp [hi] at h
 | some k=>
  have hlt:=(cd.1 hi).1;refine ⟨hlt,?_⟩;have hk:idx.getD i 0=k:=by simp [xO,hi]
  simp only [hi,cx,cc] at h;simp only [ak,C.at,C.kid,hk];cases hr:R[k]? with
  | none=>simp [hr] at h
  | some row=>simpa [hr] using h
def UF {w:World} {S:Nat->Prop} {m:aq->Value} {d:Nat} {c:C} {u:Value} {q:aq} {b:Nat} (hr:rel w S L0 m true d [] c u) (ho:ak c q) (hb:blk (m q)=some b):b < w.heap.size:=by
 unfold ak at ho;cases hc:c.at q with
 | none=>simp [hc] at ho
 | some c1=>
  obtain ⟨u',d',hr'⟩:=va q hr hc;simp only [hc,cx,cb] at ho;cases c1 with
  | sl own nl es cap rows=>
   cases own with
   | false=>simp [C.isOwn] at ho
   | true=>
    obtain ⟨a,k,D,e1,e2,e3,e4,e5,e6,e7,e8⟩:=eb hr';rw [cK] at e2;rw [e2] at hb;rcases e8 with e8|⟨b',off,arr,elem,f1,f2,_⟩
    ·cases a<;>simp [blk,e8] at hb
    ·subst f1;simp only [blk] at hb;split at hb
     ·simp at hb
     ·simp only [cb] at hb;subst hb;exact (nc.1 f2).1
  | _=>simp [C.isOwn] at ho
def E2 (idx:List Nat) (n0:Nat) (m0:Value) (ma mb:aq->Value):aq->Value
 | []=>m0
 | (i,j)::q=>if idx.getD i 0 < n0 then ma ((idx.getD i 0,j)::q) else mb ((idx.getD i 0 - n0,j)::q)
def Vr {es:Nat} {nl nl' nl'':Option Bool} {cap cap' cap'':Option Nat} {A B:List (List C)} {k j:Nat} {q:aq} (h:ak (.sl true nl es cap (A++B)) ((k,j)::q)) :
  (k < A.length/\ak (.sl true nl' es cap' A) ((k,j)::q))∨(A.length<=k/\ak (.sl true nl'' es cap'' B) ((k - A.length,j)::q)):=by
 simp only [ak,C.at,C.kid] at h ⊢;by_cases hk:k < A.length
 ·rw [cJ hk] at h;exact .inl ⟨hk,h⟩
 ·rw [cL (by omega)] at h;exact .inr ⟨by omega,h⟩
theorem We {c0 c1 c2:C} (n:Nat):R0 [true,false,true] [c0,c1,c2] n=if n=0 then c0 else if n=2 then c2 else .dead:=by
 match n with
 | 0=>rfl
 | 1=>rfl
 | 2=>rfl
 | n+3=>rfl
theorem Z4 {P:Program} {f:FuncId} {es:Nat} {A B:List (List C)} {c1:C} {idx:List Nat} (hn:idx.Nodup) (hk:∀ k∈idx,k < (A++B).length) (hA:∀ row∈A,∀ c∈row,K9 c=true) (hB:∀ row∈B,∀ c∈row,K9 c=true)
  (hraw:∀ V W:List (List Value),V.length=A.length->W.length=B.length->(∀ vr∈V,vr.length=es)->(∀ vr∈W,vr.length=es)->(∀ vr∈V,∀ v∈vr,v.oneCell'=true)->(∀ vr∈W,∀ v∈vr,v.oneCell'=true)->Con P f [true,false,true] false [.sl true none es none (fN V),c1,.sl true none es none (fN W)] (.sl true none es none (fN (pick idx (V++W))))) :
  Con P f [true,false,true] false [.sl true none es none A,c1,.sl true none es none B] (.sl true none es none (pick idx (A++B))):=by
 intro w S m us hl hr hinj;generalize hO:aG (R0 [true,false,true] [C.sl true none es none A,c1,C.sl true none es none B]) m=O at hr ⊢;obtain ⟨u0,d0,hu0,hr0⟩:=hr 0 _ rfl;obtain ⟨u2,d2,hu2,hr2⟩:=hr 2 _ rfl;have hr0':rel w (fun b=>S b/\¬ O b) L0 (m 0) true d0 [] (.sl true none es none A) u0:=hr0;have hr2':rel w (fun b=>S b/\¬ O b) L0 (m 2) true d2 [] (.sl true none es none B) u2:=hr2;obtain ⟨V,D,hV,hw,hrel⟩:=Xs (S':=fun b=>(S b/\¬ O b)/\¬ O b) hr0';obtain ⟨W,D',hW,hw',hrel'⟩:=Xs (S':=fun b=>(S b/\¬ O b)/\¬ O b) hr2';have top:∀ n,n=0∨n=2->ak (R0 [true,false,true] [C.sl true none es none A,c1,C.sl true none es none B] n) []:=by
  rintro n (rfl|rfl)<;>rfl
 have rawOwn:∀ n p,ak (R0 [true,false,true] [C.sl true none es none (fN V),c1,C.sl true none es none (fN W)] n) p->(n=0∨n=2)/\p=[]:=by
  intro n p h;rw [We] at h;split at h
  ·rename_i e; exact ⟨.inl e,m8 (Om V) h⟩
  ·split at h
   ·rename_i e; exact ⟨.inr e,m8 (Om W) h⟩
   ·exact (aM h).elim
 have rawSub:∀ b,aG (R0 [true,false,true] [C.sl true none es none (fN V),c1,C.sl true none es none (fN W)]) m b->∃ n,(n=0∨n=2)/\blk (m n [])=some b:=by
  rintro b ⟨n,p,h,hb⟩;obtain ⟨h1,rfl⟩:=rawOwn n p h;exact ⟨n,h1,hb⟩
 have rawIn:∀ b,aG (R0 [true,false,true] [C.sl true none es none (fN V),c1,C.sl true none es none (fN W)]) m b->O b:=fun b h=>by
  obtain ⟨n,h1,h2⟩:=rawSub b h;rw [<-hO]; exact ⟨n,[],top n h1,h2⟩
 have hD:=hraw V W hV.len hW.len hw hw' (hV.one hA) (hW.one hB) w (fun b=>S b/\¬ O b) m us (by simpa using hl) (by
  intro i c hi
  match i with
  | 0=>
   simp only [cu,cb] at hi;subst hi;exact ⟨u0,2,hu0,av (fun b _ hb=>⟨⟨hb.1,fun q=>hb.2 (rawIn b q)⟩,rfl⟩) 2 (fun _ _ _ h=>h) (fun _ _ _ _ _ _=>rfl) (fun _ _ _=>rfl) hrel⟩
  | 1=>
   obtain ⟨u,d,e1,e2⟩:=hr 1 c (by simpa using hi);exact ⟨u,d,e1,av (fun b _ hb=>⟨⟨hb,fun q=>hb.2 (rawIn b q)⟩,rfl⟩) d (fun _ _ _ h=>h) (fun h=>by simp at h) (fun h=>by simp at h) e2⟩
  | 2=>
   simp only [nn,cu,cb] at hi;subst hi;exact ⟨u2,2,hu2,av (fun b _ hb=>⟨⟨hb.1,fun q=>hb.2 (rawIn b q)⟩,rfl⟩) 2 (fun _ _ _ h=>h) (fun _ _ _ _ _ _=>rfl) (fun _ _ _=>rfl) hrel'⟩
  | i+3=>simp at hi) (by
  intro n p n' p' b g1 g2 b1 b2;obtain ⟨h1,rfl⟩:=rawOwn n p g1;obtain ⟨h2,rfl⟩:=rawOwn n' p' g2;exact hinj n [] n' [] b (top n h1) (top n' h2) b1 b2)
 refine hD.mono ?_;rintro u w' ⟨mr,d,q1,q2,q3,q4⟩;have topOwn:ak (.sl true none es none (fN (pick idx (V++W)))) []:=rfl;have inner:∀ i j q b,ak (.sl true none es none (pick idx (A++B))) ((i,j)::q)->blk (E2 idx A.length (mr []) (m 0) (m 2) ((i,j)::q))=some b ->
   i < idx.length/\b < w.heap.size/\∃ n k,(n=0∨n=2)/\(n=0->k=idx.getD i 0/\k < A.length)/\(n=2->A.length<=idx.getD i 0/\k=idx.getD i 0 - A.length)/\ak (R0 [true,false,true] [C.sl true none es none A,c1,C.sl true none es none B] n) ((k,j)::q)/\blk (m n ((k,j)::q))=some b:=by
  intro i j q b h hb;have ho:=Us (nl':=none) (cap':=none) h;simp only [E2] at hb;rcases Vr (nl':=none) (cap':=none) (nl'':=none) (cap'':=none) ho.2 with ⟨h1,h2⟩|⟨h1,h2⟩
  ·rw [if_pos h1] at hb;exact ⟨ho.1,UF hr0' h2 hb,0,_,.inl rfl,fun _=>⟨rfl,h1⟩,fun e=>by simp at e,h2,hb⟩
  ·rw [if_neg (by omega)] at hb;exact ⟨ho.1,UF hr2' h2 hb,2,_,.inr rfl,fun e=>by simp at e,fun _=>⟨h1,rfl⟩,h2,hb⟩
 have notTop:∀ n k j q b,ak (R0 [true,false,true] [C.sl true none es none A,c1,C.sl true none es none B] n) ((k,j)::q)->blk (m n ((k,j)::q))=some b->∀ n',(n'=0∨n'=2)->blk (m n' [])≠some b:=by
  intro n k j q b h hb n' hn' e;have:=(hinj n' [] n _ b (top n' hn') h e hb).2;cases this
 have tops:∀ b,blk (mr [])=some b->w.heap.size<=b∨∃ n,(n=0∨n=2)/\blk (m n [])=some b:=by
  intro b hb;rcases q3 b ⟨[],topOwn,hb⟩ with h|h
  ·exact .inl h
  ·exact .inr (rawSub b h)
 have own1:∀ b,iK (.sl true none es none (pick idx (A++B))) (E2 idx A.length (mr []) (m 0) (m 2)) b->w.heap.size<=b∨O b:=by
  rintro b ⟨q,ho,hb⟩
  match q,ho,hb with
  | [],_,hb=>
   rcases tops b hb with h|⟨n,h1,h2⟩
   ·exact .inl h
   ·rw [<-hO]; exact .inr ⟨n,[],top n h1,h2⟩
  | (i,j)::q,ho,hb=>
   obtain ⟨_,_,n,k,_,_,_,x1,x2⟩:=inner i j q b ho hb;rw [<-hO]; exact .inr ⟨n,_,x1,x2⟩
 have keep:∀ b,b < w.heap.size->(∀ n,(n=0∨n=2)->blk (m n [])≠some b)->w'.heap[b]?=w.heap[b]?:=fun b hb hne=>q4.block b hb (fun h=>by obtain ⟨n,h1,h2⟩:=rawSub b h; exact hne n h1 h2);have noTop:∀ b,¬ O b->∀ n,(n=0∨n=2)->blk (m n [])≠some b:=fun b hb n h1 h2=>hb (by rw [<-hO]; exact ⟨n,[],top n h1,h2⟩);refine ⟨E2 idx A.length (mr []) (m 0) (m 2),D+D'+d+1,?_,?_,own1,⟨q4.os,q4.tape,q4.output,q4.drawn,q4.size,fun b hb hno=>keep b hb (noTop b hno)⟩⟩
 ·cases d with
  | zero=>exact q1.elim
  | succ d=>
  obtain ⟨a,k,e1,e2,e3,e4,ez,e5,e6,e7⟩:=q1;have hlen:(fN (pick idx (V++W))).length=(pick idx (A++B)).length:=by simp [fN,pick]
  have row1:∀ k0,k0 < (A++B).length->∃ (row:List C) (vr:List Value),(A++B)[k0]?=some row/\(V++W)[k0]?=some vr/\row.length=es/\∀ j c,row[j]?=some c->∃ v,vr[j]?=some v/\∃ n kk,(n=0∨n=2)/\(n=0->k0 < A.length/\kk=k0)/\(n=2->A.length<=k0/\kk=k0 - A.length)/\(∀ q,ak c q->ak (R0 [true,false,true] [C.sl true none es none A,c1,C.sl true none es none B] n) ((kk,j)::q))/\rel w (fun b=>S b/\¬ O b) L0 (m n) true (D+D') [(kk,j)] c v:=by
   intro k0 hk0;by_cases hA:k0 < A.length
   ·have hrw:A[k0]?=some A[k0]:=cq hA;have hvl:k0 < V.length:=by rw [hV.len]; exact hA
    have hv:V[k0]?=some V[k0]:=cq hvl;refine ⟨A[k0],V[k0],by rw [cJ hA,hrw],by rw [cJ hvl,hv],by rw [<-hV.wid k0 _ _ hrw hv]; exact hw _ (nx _),fun j c hj=>?_⟩;obtain ⟨vr,v,v1,v2,v3⟩:=hV.cell k0 j _ c hrw hj;rw [hv] at v1; cases v1;exact ⟨v,v2,0,k0,.inl rfl,fun _=>⟨hA,rfl⟩,fun e=>by simp at e,fun q hq=>by show ak (C.sl true none es none A) _; simp only [ak,C.at,C.kid,hrw,cc,hj]; exact hq,aS D (D+D') (by omega) v3⟩
   ·have hB:k0 - A.length < B.length:=by rw [ni] at hk0; omega
    have hrw:B[k0 - A.length]?=some B[k0 - A.length]:=cq hB;have hvl:k0 - A.length < W.length:=by rw [hW.len]; exact hB
    have hv:W[k0 - A.length]?=some W[k0 - A.length]:=cq hvl;refine ⟨B[k0 - A.length],W[k0 - A.length],by rw [cL (by omega),hrw],by rw [cL (by rw [hV.len]; omega),hV.len,hv],by rw [<-hW.wid _ _ _ hrw hv]; exact hw' _ (nx _),fun j c hj=>?_⟩;obtain ⟨vr,v,v1,v2,v3⟩:=hW.cell _ j _ c hrw hj;rw [hv] at v1; cases v1;exact ⟨v,v2,2,k0 - A.length,.inr rfl,fun e=>by simp at e,fun _=>⟨by omega,rfl⟩,fun q hq=>by show ak (C.sl true none es none B) _; simp only [ak,C.at,C.kid,hrw,cc,hj]; exact hq,aS D' (D+D') (by omega) v3⟩
  refine ⟨a,k,by rw [<-hlen]; exact e1,by rw [<-hlen]; exact e2,e3,e4,ez,?_,fun h=>e6 h,?_⟩
  ·intro row hrow;obtain ⟨k0,hk0,rfl⟩:=cE.1 hrow;obtain ⟨row,vr,r1,r2,r3,_⟩:=row1 k0 (hk k0 hk0);rw [r1]; exact r3
  rcases e7 with e7|⟨hb,_⟩|⟨b,off,arr,elem,frz,g1,g2,g3,g4,g5⟩
  ·exact .inl e7
  ·simp at hb
  ·refine .inr (.inr ⟨b,off,arr,elem,frz,g1,g2,by simp,g4,?_⟩);intro i j row c hi hj;simp only [pick,cv] at hi;cases hx:idx[i]? with
   | none=>rw [hx] at hi; simp at hi
   | some k0=>
    rw [hx] at hi;simp only [cx,cb] at hi;obtain ⟨row',vr,r1,r2,_,r4⟩:=row1 k0 (hk k0 (cg hx));rw [r1,nk] at hi;subst hi;obtain ⟨v,v2,n,kk,hn',n0,n2,hown,v3⟩:=r4 j c hj;obtain ⟨u',f1,f2⟩:=g5 i j (vr.map .val) (.val v) (by simp only [fN,pick,cv,hx,cx,r2,nk]) (by simp [v2]);have hu':u'=v:=by
     cases d with
     | zero=>exact f2.elim
     | succ d=>exact f2
    subst hu';refine ⟨u',f1,aS (D+D') (D+D'+(d+1)) (by omega) (av (fun b hb hs=>⟨⟨.inl ⟨rfl,.inl hs.1⟩,fun q=>(own1 b q).elim (fun h=>by omega) hs.2⟩,keep b hb (noTop b hs.2)⟩) (D+D') (fun _ _ _ h=>h) (fun _ q b ho hb hlt=>keep b hlt (notTop n kk j q b (hown q ho) (by simpa using hb))) (fun _ q ho=>?_) v3)⟩;have hx':idx.getD i 0=k0:=by simp [xO,hx]
    show E2 idx A.length (mr []) (m 0) (m 2) ((i,j)::q)=m n ((kk,j)::q);simp only [E2,hx'];rcases hn' with rfl|rfl
    ·obtain ⟨y1,rfl⟩:=n0 rfl;rw [if_pos y1]
    ·obtain ⟨y1,rfl⟩:=n2 rfl;rw [if_neg (by omega)]
 ·intro q q' b g1 g2 b1 b2
  match q,q',g1,g2,b1,b2 with
  | [],[],_,_,_,_=>rfl
  | [],(i,j)::q',_,g2,b1,b2=>
   exfalso;obtain ⟨_,x0,n,k,_,_,_,x1,x2⟩:=inner i j q' b g2 b2;rcases tops b b1 with h|⟨n',h1,h2⟩
   ·omega
   ·exact notTop n k j q' b x1 x2 n' h1 h2
  | (i,j)::q,[],g1,_,b1,b2=>
   exfalso;obtain ⟨_,x0,n,k,_,_,_,x1,x2⟩:=inner i j q b g1 b1;rcases tops b b2 with h|⟨n',h1,h2⟩
   ·omega
   ·exact notTop n k j q b x1 x2 n' h1 h2
  | (i,j)::q,(i',j')::q',g1,g2,b1,b2=>
   obtain ⟨y0,_,n,k,hn1,n0,n2,y1,y2⟩:=inner i j q b g1 b1;obtain ⟨z0,_,n',k',hn2,n0',n2',z1,z2⟩:=inner i' j' q' b g2 b2;obtain ⟨rfl,e⟩:=hinj n _ n' _ b y1 z1 y2 z2;simp only [acS,cz] at e;obtain ⟨⟨e1,rfl⟩,rfl⟩:=e;have e1':idx.getD i 0=idx.getD i' 0:=by
    rcases hn1 with rfl|rfl
    ·have:=n0 rfl; have:=n0' rfl; omega
    ·have:=n2 rfl; have:=n2' rfl; omega
   have e2':idx[i]=idx[i']:=by simpa [xO,y0,z0] using e1'
   have:=(List.getElem_inj hn).1 e2';subst this; rfl
def EA {α:Type} (L:List (List α)):∀ (m i:Nat),i+m<=L.length->pick (List.range' i m) L=(L.drop i).take m
 | 0,i,_=>by simp [pick]
 | m+1,i,h=>by
  have hi:i < L.length:=by omega
  have ih:=EA L m (i+1) (by omega);rw [xC hi,List.take_succ_cons,<-ih];simp [pick,acx,cq hi]
def Qb {α:Type} (a b:List Nat) (L:List (List α)):pick (a++b) L=pick a L++pick b L:=by simp [pick]
def Fa (i n:Nat):List Nat:=List.range' 0 i++[n]++List.range' i (n - i)
def Ka {α:Type} {A:List (List α)} {x:List α} {i:Nat} (h:i<=A.length):pick (Fa i A.length) (A++[x])=A.take i++[x]++A.drop i:=by
 unfold Fa;rw [Qb,Qb,EA _ _ _ (by simp; omega),EA _ _ _ (by simp; omega)]
 congr 1
 ·congr 1
  ·rw [nU,adF h]
  ·simp [pick]
 ·rw [List.drop_append_of_le_length h,adF (by simp),nj (by simp)]
def Qy {i n:Nat} (h:i<=n):(Fa i n).Nodup:=by
 unfold Fa;rw [ade,ade];refine ⟨⟨List.nodup_range',by simp,fun a ha b hb=>?_⟩,List.nodup_range',fun a ha b hb=>?_⟩
 ·simp only [ac9,cO] at ha hb; omega
 ·simp only [cH,ac9,cO] at ha hb; omega
def UI {i n k:Nat} (h:i<=n) (hk:k∈Fa i n):k < n+1:=by
 unfold Fa at hk;simp only [cH,ac9,cO] at hk; omega
abbrev Raw:={vr:List Value // ∀ v∈vr,v.oneCell'=true}
def Dg (x:Raw):List C:=x.1.map .val
def UW:aF Dg:=by
 refine ⟨fun x=>?_,fun x=>?_,fun x=>?_⟩
 ·simp only [Dg,adE];apply ac1;intro v _; rfl
 ·simp only [Dg,ac8,cn];intro v hv; exact x.2 v hv
 ·simp only [Dg,ac8,cn];intro v hv;have:v.oneCell'=true:=x.2 v hv;simp [plainCell,C.cellOk,C.isOwn,this]
theorem TR (V:List (List Value)) (h:∀ vr∈V,∀ v∈vr,v.oneCell'=true):∃ l:List Raw,l.map Dg=fN V/\l.length=V.length/\l.map (·.1)=V:=by
 refine ⟨V.attachWith _ h,?_,by simp,by simp⟩;have e:(V.attachWith _ h).map (fun x=>x.1)=V:=by simp
 unfold fN
 conv=>rhs; rw [<-e]
 rw [adE]; rfl
def Xb {P:Program} {f:FuncId} {es by1:Nat} (hw1:∀ (α:Type) (row:α->List C),aF row->∀ (l:List α) (i:Nat) (x:α) (k:Nat) (r:List α),r=l.take i++[x]++l.drop i->i<=l.length->(l.length+1) * by1<=140737488355328->l.length<=k->k<=maxLen ->
   Con P f [true,false,true] false [.sl true none es (some k) (l.map row),.val (.int .i64 i),.sl true none es none ([x].map row)] (.sl true none es none (r.map row)))
  {A:List (List C)} {rx:List C} {i:Nat} (hi:i<=A.length) (hsz:(A.length+1) * by1<=140737488355328) (hA:∀ row∈A,∀ c∈row,K9 c=true) (hx:∀ c∈rx,K9 c=true) :
  Con P f [true,false,true] false [.sl true none es none A,.val (.int .i64 i),.sl true none es none [rx]] (.sl true none es none (A.take i++[rx]++A.drop i)):=by
 rw [<-Ka (x:=rx) hi];refine Z4 (Qy hi) (fun k hk=>by have:=UI hi hk; simpa using this) hA (fun row hr=>by obtain rfl:=cO.1 hr; exact hx) ?_;intro V W hV hW _ _ oV oW;obtain ⟨y,rfl⟩:∃ y,W=[y]:=adD.1 hW;obtain ⟨l,e1,e2,e3⟩:=TR V oV;have hy:∀ v∈y,v.oneCell'=true:=oW y (by simp);rw [<-hV,Ka (by omega),<-e1];have er:fN (V.take i++[y]++V.drop i)=(l.take i++[(⟨y,hy⟩:Raw)]++l.drop i).map Dg:=by
  simp only [fN,nt,xb,nQ] at e1 ⊢;rw [<-e1]; rfl
 rw [er];exact I5 fun k hk1 hk2=>hw1 Raw Dg UW l i ⟨y,hy⟩ k _ rfl (by omega) (by rw [e2,hV]; exact hsz) (by simpa using hk1) hk2
end Go.Abs
namespace Go.Abs
inductive XW (R:Nat->C):(Nat->C)->Prop where
 | n:XW R RZ
 | c {R':Nat->C} {d:Nat} {c:C} (h0:R d=c) (h:XW R R'):XW R (upd R' d c)
def XW.all {R R':Nat->C} (h:XW R R'):∀ k,R' k=R k∨R' k=.dead:=by
 induction h with
 | n=>exact xn
 | c h0 _ ih=>exact xc h0 ih
inductive RW (f R':Nat->C):(Nat->C)->Prop where
 | n:RW f R' au
 | c {g:Nat->C} {d:Nat} {c:C} (h0:f d=c) (hm:c.ment (fun k _=>dN (R' k)) 3=false) (h:RW f R' g):RW f R' (af g d c)
def RW.all {n:Nat} {f g R':Nat->C} (h:RW f R' g):∀ t,t < n->g t=.dead∨(g t=f t/\(g t).ment (fun k _=>dN (R' k)) 3=false):=by
 induction h with
 | n=>exact rn
 | c h0 hm _ ih=>exact rc h0 hm ih
def wr {n:Nat} {f g:Nat->C} {R R':Nat->C} (hr:XW R R') (ht:RW f R' g):aX ⟨tab n f,R⟩ ⟨tab n g,R'⟩:=Up hr.all ht.all
end Go.Abs
namespace Go.Abs
class Dp (A:Prop) (B:outParam Prop):Prop where
 p:B->A
instance (priority:=low) (A:Prop):Dp A A:=⟨id⟩
section
variable {E:Env} {Q:Exit->St->Prop} {K:List Fm} {st s':St} {id:Nat} {ops:Array Oper} {x y:Code} {P A B D:Prop}
instance [p:Pop A B] [q:Dp B D]:Dp A D:=⟨fun h=>p.pop (q.p h)⟩
instance [q:Dp (Wk E x (ap E Q (.sk y::K)) st) D]:Dp (Wk E (.seq x y) (ap E Q K) st) D:=⟨fun h=>aL (q.p h)⟩
instance [q:Dp (Wk E x (ap E Q (.bl id::K)) st) D]:Dp (Wk E (.block id x) (ap E Q K) st) D:=⟨fun h=>aQ (q.p h)⟩
instance [q:Dp (Wk E x (ap E Q (.sc::K)) st) D]:Dp (Wk E (.scope x) (ap E Q K) st) D:=⟨fun h=>WL (q.p h)⟩
instance [q:Dp (ap E Q K .normal st) D]:Dp (Wk E .skip (ap E Q K) st) D:=⟨fun h=>aU (q.p h)⟩
instance [q:Dp (ap E Q K (.exit id) st) D]:Dp (Wk E (.exit id) (ap E Q K) st) D:=⟨fun h=>fx (q.p h)⟩
instance [q:Dp (ap E Q K .ret st) D]:Dp (Wk E .ret (ap E Q K) st) D:=⟨fun h=>eZ (q.p h)⟩
def z0 [d:Dp A (Wk E (.region id ops false) (ap E Q K) st)] [q:HW (ap E Q K .normal s') B] (k:B)
  (e:∀ Z:St->Prop,Z s'->RX E false (kP ops) (ke ops) 0 ops.toList st Z:=by intro Z hZ; simp (config := { maxSteps := 4000000 }) only [go_sem,seval]; exact hZ):A:=d.p (iL fun Z hZ=>e Z (hZ _ (q.h k)))
def z1 (F:P) [d:Dp A (Wk E (.region id ops false) (ap E Q K) st)] [q:HW (ap E Q K .normal s') B] (k:B)
  (e:P->∀ Z:St->Prop,Z s'->RX E false (kP ops) (ke ops) 0 ops.toList st Z:=by intro F Z hZ; simp (config := { maxSteps := 4000000 }) only [go_sem,seval,F]; exact hZ):A:=d.p (iL fun Z hZ=>e F Z (hZ _ (q.h k)))
def d0 [d:Dp A (Wk E (.region id ops true) (ap E Q K) st)] [q:HW (ap E Q K .normal s') B] (k:B)
  (e:∀ Z:St->Prop,Z s'->RX E true (kP ops) (ke ops) 0 ops.toList st Z:=by intro Z hZ; simp (config := { maxSteps := 4000000 }) only [go_sem,seval]; (repeat with_reducible refine gE (by kernel_rfl) ?_); exact hZ) (f:Bj ops s'=true:=by kernel_rfl):A:=d.p (mW fun Z hZ=>e Z (hZ _ f (q.h k)))
def d1 (F:P) [d:Dp A (Wk E (.region id ops true) (ap E Q K) st)] [q:HW (ap E Q K .normal s') B] (k:B)
  (e:P->∀ Z:St->Prop,Z s'->RX E true (kP ops) (ke ops) 0 ops.toList st Z:=by intro F Z hZ; simp (config := { maxSteps := 4000000 }) only [go_sem,seval,F]; (repeat with_reducible refine gE (by kernel_rfl) ?_); exact hZ) (f:Bj ops s'=true:=by kernel_rfl):A:=d.p (mW fun Z hZ=>e F Z (hZ _ f (q.h k)))
theorem e0 {α:Sort _} {a b:α} [d:Dp A B] (h:a=b) (e:a=b->B:=by intro h; cases h; simp only [go_sem,seval]; exact ⟨_,rfl,gK.h,qn.h⟩):A:=d.p (e h)
theorem e1 (F:P) {α:Sort _} {a b:α} [d:Dp A B] (h:a=b) (e:P->a=b->B:=by intro F h; cases h; simp only [go_sem,seval,F]; exact ⟨_,rfl,gK.h,qn.h⟩):A:=d.p (e F h)
theorem f0 {α:Sort _} {a b:α} [d:Dp A B] (h:a=b) (e:a=b->B:=by intro h; cases h; simp only [go_sem,seval]; exact ⟨_,rfl,gK.h⟩):A:=d.p (e h)
theorem f1 (F:P) {α:Sort _} {a b:α} [d:Dp A B] (h:a=b) (e:P->a=b->B:=by intro F h; cases h; simp only [go_sem,seval,F]; exact ⟨_,rfl,gK.h⟩):A:=d.p (e F h)
end
def k2 {A B:Prop} (a:A) (b:B):A/\B:=⟨a,b⟩
def k3 {A B C:Prop} (a:A) (b:B) (c:C):A/\B/\C:=⟨a,b,c⟩
def k4 {A B C D:Prop} (a:A) (b:B) (c:C) (d:D):A/\B/\C/\D:=⟨a,b,c,d⟩
def k5 {A B C D E:Prop} (a:A) (b:B) (c:C) (d:D) (e:E):A/\B/\C/\D/\E:=⟨a,b,c,d,e⟩
def bI {α β:Type} {x:Option α} {f:α->Option β} {b:β} (h:x.bind f=some b):∃ a,x=some a/\f a=some b:=ck.1 h
section
variable {α:Type} {row f g:α->List C} {l:List α} {i:Nat} {x y y0:α} {rx ry:List C}
def mm2 (hx:l[i]?=some x) (e1:row x=rx) (e2:row y=ry) (k:List C->List C) (h:k rx=ry):(l.map row).modify i k=(l.set i y).map row:=Kk hx e1 e2 h
def mm3 (hx:l[i]?=some x) (e1:row y0=rx) (e2:row y=ry) (k:List C->List C) (h:k rx=ry):((l.set i y0).map row).modify i k=(l.set i y).map row:=RP hx e1 e2 h
theorem ov1 (hx:l[i]?=some x) (e1:row x=rx) (k:List C->List C):(l.map row).modify i k=(l.map row).set i (k rx):=SG hx e1 rfl
def ov2 (hx:l[i]?=some x) (ry:List C):((l.map row).set i ry)[i]?=some ry:=Gh ry hx
theorem ov3 (hx:l[i]?=some x) (ry:List C) (k:List C->List C):((l.map row).set i ry).modify i k=(l.map row).set i (k ry):=F4 hx rfl
theorem mi1 (hx:l[i]?=some x) (e1:g x=rx) (k:List C->List C):(mxR f g i l).modify i k=(mxR f g i l).set i (k rx):=U7 hx e1 rfl
def mi4 (h:l.length<=i) (f g:α->List C):mxR f g i l=l.map f:=XQ h
end
def wR {n:Nat} {f g:Nat->C} {R R':Nat->C} (hr:XW R R':=by repeat' first|rfl|constructor) (ht:RW f R' g:=by repeat' first|rfl|constructor):aX ⟨tab n f,R⟩ ⟨tab n g,R'⟩:=wr hr ht
def wF {P:Prop} {n:Nat} {f g:Nat->C} {R R':Nat->C} (F:P) (hr:P->XW R R':=by intro F; repeat' first|rfl|constructor|simp only [go_sem,seval,nF,hC,nK,nL,F])
  (ht:P->RW f R' g:=by intro F; repeat' first|rfl|constructor|simp only [go_sem,seval,nF,hC,nK,nL,F]):aX ⟨tab n f,R⟩ ⟨tab n g,R'⟩:=wr (hr F) (ht F)
def iD {p:Prop} [Decidable p] {ρ:Type} {a b c:ρ} {G:Prop} (h:(if p then a else b)=c) (h1:p->decide p=true->a=c->G) (h2:¬ p->decide p=false->b=c->G):G:=by
 by_cases hp:p
 ·exact h1 hp (decide_eq_true hp) (by rwa [if_pos hp] at h)
 ·exact h2 hp (decide_eq_false hp) (by rwa [if_neg hp] at h)
def iB {q:Bool} {ρ:Type} {a b c:ρ} {G:Prop} (h:(if q=true then a else b)=c) (h1:q=true->a=c->G) (h2:q=false->b=c->G):G:=by
 cases q with
 | true=>exact h1 rfl (by simpa using h)
 | false=>exact h2 rfl (by simpa using h)
section
variable {E:Env} {Q:Exit->St->Prop} {K:List Fm} {st:St} {x y:Code} {A:Prop} {ρ:Type} {r1 r2 r3:ρ} {c:Operand} {p:Prop} [Decidable p] {b:Bool}
theorem cD [d:Dp A (Wk E (.cond c x y) (ap E Q K) st)] (h:(if p then r1 else r2)=r3) (h1:p->decide p=true->r1=r3->Wk E x (ap E Q K) st) (h2:¬ p->decide p=false->r2=r3->Wk E y (ap E Q K) st) (hc:st.ev c=.val (.bool (decide p)):=by rfl):A:=
 d.p (iD h (fun a b e=>mY hc (fun _=>h1 a b e) fun n=>absurd a n) fun a b e=>mY hc (fun n=>absurd n a) fun _=>h2 a b e)
theorem cN [d:Dp A (Wk E (.cond c x y) (ap E Q K) st)] (h:(if p then r1 else r2)=r3) (h1:¬ p->decide p=false->r2=r3->Wk E x (ap E Q K) st) (h2:p->decide p=true->r1=r3->Wk E y (ap E Q K) st) (hc:st.ev c=.val (.bool (!decide p)):=by rfl):A:=
 d.p (iD h (fun a b e=>Ir hc (fun n=>absurd a n) fun _=>h2 a b e) fun a b e=>Ir hc (fun _=>h1 a b e) fun n=>absurd n a)
theorem cB [d:Dp A (Wk E (.cond c x y) (ap E Q K) st)] (h:(if b=true then r1 else r2)=r3) (h1:b=true->r1=r3->Wk E x (ap E Q K) st) (h2:b=false->r2=r3->Wk E y (ap E Q K) st) (hc:st.ev c=.val (.bool b):=by rfl):A:=
 d.p (iB h (fun a e=>oH hc (fun _=>h1 a e) fun n=>by simp [a] at n) fun a e=>oH hc (fun n=>by simp [a] at n) fun _=>h2 a e)
theorem cM [d:Dp A (Wk E (.cond c x y) (ap E Q K) st)] (h:(if b=true then r1 else r2)=r3) (h1:b=false->r2=r3->Wk E x (ap E Q K) st) (h2:b=true->r1=r3->Wk E y (ap E Q K) st) (hc:st.ev c=.val (.bool (!b)):=by rfl):A:=
 d.p (iB h (fun a e=>pV hc (fun n=>by simp [a] at n) fun _=>h2 a e) fun a e=>pV hc (fun _=>h1 a e) fun n=>by simp [a] at n)
theorem cDs [d:Dp A (Wk E (.cond c x y) (ap E Q K) st)] (h:(if p then r1 else r2)=r3) (h2:¬ p->decide p=false->r2=r3->Wk E y (ap E Q K) st) (h1:p->decide p=true->r1=r3->Wk E x (ap E Q K) st) (hc:st.ev c=.val (.bool (decide p)):=by rfl):A:=cD h h1 h2 hc
theorem cNs [d:Dp A (Wk E (.cond c x y) (ap E Q K) st)] (h:(if p then r1 else r2)=r3) (h2:p->decide p=true->r1=r3->Wk E y (ap E Q K) st) (h1:¬ p->decide p=false->r2=r3->Wk E x (ap E Q K) st) (hc:st.ev c=.val (.bool (!decide p)):=by rfl):A:=cN h h1 h2 hc
theorem cBs [d:Dp A (Wk E (.cond c x y) (ap E Q K) st)] (h:(if b=true then r1 else r2)=r3) (h2:b=false->r2=r3->Wk E y (ap E Q K) st) (h1:b=true->r1=r3->Wk E x (ap E Q K) st) (hc:st.ev c=.val (.bool b):=by rfl):A:=cB h h1 h2 hc
theorem cMs [d:Dp A (Wk E (.cond c x y) (ap E Q K) st)] (h:(if b=true then r1 else r2)=r3) (h2:b=true->r1=r3->Wk E y (ap E Q K) st) (h1:b=false->r2=r3->Wk E x (ap E Q K) st) (hc:st.ev c=.val (.bool (!b)):=by rfl):A:=cM h h1 h2 hc
theorem ct [d:Dp A (Wk E (.cond c x y) (ap E Q K) st)] (h:Wk E x (ap E Q K) st) (hc:st.ev c=.val (.bool true):=by rfl):A:=d.p (VI hc h)
theorem cf [d:Dp A (Wk E (.cond c x y) (ap E Q K) st)] (h:Wk E y (ap E Q K) st) (hc:st.ev c=.val (.bool false):=by rfl):A:=d.p (VX hc h)
def iDs {ρ:Type} {a b c:ρ} {G:Prop} (h:(if p then a else b)=c) (h2:¬ p->decide p=false->b=c->G) (h1:p->decide p=true->a=c->G):G:=iD h h1 h2
def iBs {q:Bool} {ρ:Type} {a b c:ρ} {G:Prop} (h:(if q=true then a else b)=c) (h2:q=false->b=c->G) (h1:q=true->a=c->G):G:=iB h h1 h2
end
section
variable {E:Env} {Q:Exit->St->Prop} {K:List Fm} {st:St} {A:Prop} {c:Code} {α β ρ:Type} {l:List α} {L:List α->Nat->β->Option ρ} {r:ρ}
def lG (mk:Nat->β->St) (b0:β) [d:Dp A (Wk E (.loop c) (ap E Q K) st)] (h:L l 0 b0=some r) (h0:aX st (mk 0 b0)) (hl:rW st->l.length<=maxLen)
  (hn:∀ i b,¬ i < l.length->L [] i b=some r->Wk E c (ap E Q (.lp (fun s=>i < l.length/\∃ b',aX s (mk (i+1) b')/\L (l.drop (i+1)) (i+1) b'=some r)::K)) (mk i b))
  (hc:∀ i b x,i < l.length->l[i]?=some x->IntKind.i64.wrap ((i:Int)+1)=((i+1:Nat):Int)->L (x::l.drop (i+1)) i b=some r->Wk E c (ap E Q (.lp (fun s=>i < l.length/\∃ b',aX s (mk (i+1) b')/\L (l.drop (i+1)) (i+1) b'=some r)::K)) (mk i b)):A:=
 d.p (ig fun hr=>tB mk b0 h h0 fun i b hi hL _=>by
  rcases mN l i hi with ⟨x,h1,h2,h3⟩|⟨h1,_,h3⟩
  ·rw [h3] at hL; exact hc i b x h1 h2 (eG h1 (hl hr)) hL
  ·rw [h3] at hL; exact hn i b h1 hL)
variable {n:Nat} {f:Nat->C} {R:Nat->C} {o o':Bool} {nl nl':Option Bool} {es es':Nat} {cap cap':Option Nat} {rows:List (List C)} {row:List C}
def lTs (t:Nat) (mk:Nat->β->St) (b0:β) (h:L l 0 b0=some r) [d:Dp A (Wk E (.loop c) (ap E Q K) ⟨tab n f,R⟩)]
  (hc:∀ i b x,i < l.length->l[i]?=some x->IntKind.i64.wrap ((i:Int)+1)=((i+1:Nat):Int)->L (x::l.drop (i+1)) i b=some r->Wk E c (ap E Q (.lp (fun s=>i < l.length/\∃ b',aX s (mk (i+1) b')/\L (l.drop (i+1)) (i+1) b'=some r)::K)) (mk i b))
  (hn:∀ i b,¬ i < l.length->L [] i b=some r->Wk E c (ap E Q (.lp (fun s=>i < l.length/\∃ b',aX s (mk (i+1) b')/\L (l.drop (i+1)) (i+1) b'=some r)::K)) (mk i b))
  (h0:aX ⟨tab n f,R⟩ (mk 0 b0):=by exact wR) (ht:t < n:=by decide) (hv:f t=.sl o nl es cap rows:=by rfl) (hm:rows.length=l.length:=by first|rw [cy]|rw [E6]|rw [<-nt,cy]):A:=lG mk b0 h h0 (fun q=>hm ▸ q.lenT t ht hv) hn hc
def lT (t:Nat) (mk:Nat->β->St) (b0:β) (h:L l 0 b0=some r) [d:Dp A (Wk E (.loop c) (ap E Q K) ⟨tab n f,R⟩)]
  (hn:∀ i b,¬ i < l.length->L [] i b=some r->Wk E c (ap E Q (.lp (fun s=>i < l.length/\∃ b',aX s (mk (i+1) b')/\L (l.drop (i+1)) (i+1) b'=some r)::K)) (mk i b))
  (hc:∀ i b x,i < l.length->l[i]?=some x->IntKind.i64.wrap ((i:Int)+1)=((i+1:Nat):Int)->L (x::l.drop (i+1)) i b=some r->Wk E c (ap E Q (.lp (fun s=>i < l.length/\∃ b',aX s (mk (i+1) b')/\L (l.drop (i+1)) (i+1) b'=some r)::K)) (mk i b))
  (h0:aX ⟨tab n f,R⟩ (mk 0 b0):=by exact wR) (ht:t < n:=by decide) (hv:f t=.sl o nl es cap rows:=by rfl) (hm:rows.length=l.length:=by first|rw [cy]|rw [E6]|rw [<-nt,cy]):A:=lG mk b0 h h0 (fun q=>hm ▸ q.lenT t ht hv) hn hc
def lC (k j:Nat) (mk:Nat->β->St) (b0:β) (h:L l 0 b0=some r) [d:Dp A (Wk E (.loop c) (ap E Q K) ⟨tab n f,R⟩)]
  (hn:∀ i b,¬ i < l.length->L [] i b=some r->Wk E c (ap E Q (.lp (fun s=>i < l.length/\∃ b',aX s (mk (i+1) b')/\L (l.drop (i+1)) (i+1) b'=some r)::K)) (mk i b))
  (hc:∀ i b x,i < l.length->l[i]?=some x->IntKind.i64.wrap ((i:Int)+1)=((i+1:Nat):Int)->L (x::l.drop (i+1)) i b=some r->Wk E c (ap E Q (.lp (fun s=>i < l.length/\∃ b',aX s (mk (i+1) b')/\L (l.drop (i+1)) (i+1) b'=some r)::K)) (mk i b))
  (h0:aX ⟨tab n f,R⟩ (mk 0 b0):=by exact wR) (ht:R k=.sl o nl es cap [row]:=by rfl) (hv:row[j]?=some (.sl o' nl' es' cap' rows):=by rfl) (hm:rows.length=l.length:=by first|rw [cy]|rw [E6]|rw [<-nt,cy]):A:=lG mk b0 h h0 (fun q=>hm ▸ q.cell k j ht hv) hn hc
end
class Dc {A:Type} (d:C->Option A) (t:outParam (A->C)):Prop where
 le:∀ {c:C} {x:A},d c=some x->Le c (t x)
class Dr {A:Type} (d:List C->Option A) (row:outParam (A->List C)):Prop where
 le:∀ (r:List C) (x:A),d r=some x->LeL r (row x)
instance {k:IntKind}:Dc (aH k) (fun n=>.val (.int k n)):=⟨bz⟩
instance:Dc Di (fun n=>.val (.bool n)):=⟨SK⟩
instance:Dc bW (fun n=>.val (.string n)):=⟨gj⟩
instance {A:Type} {es:Nat} {d:List C->Option A} {row:A->List C} [h:Dr d row]:Dc (aJ es d) (fun l=>.sl false none es none (l.map row)):=⟨fun q=>ic h.le q⟩
instance {k:IntKind}:Dr (dJ (aH k)) (aB k):=⟨jo k⟩
instance:Dr (dJ bW) dS:=⟨Gn⟩
section
variable {P:Program} {k:FuncId} {pure:Bool} {A0 A1 A2 A3 A4 A5 A6 B:Type} {d0:C->Option A0} {d1:C->Option A1} {d2:C->Option A2} {d3:C->Option A3} {d4:C->Option A4} {d5:C->Option A5} {d6:C->Option A6} {t0:A0->C} {t1:A1->C} {t2:A2->C} {t3:A3->C} {t4:A4->C} {t5:A5->C} {t6:A6->C} {g:B->C}
theorem om1 {m:A0->Option B} [l0:Dc d0 t0] (h:∀ q0 r,m q0=some r->Con P k [] pure [t0 q0] (g r)):aA P k ⟨[],pure,fn1 d0 (fun q0=>(m q0).map g),false⟩:=ok1 (fun q0 r e=>by obtain ⟨x,hx,rfl⟩:=cj.1 e; exact h q0 x hx) l0.le
theorem om2 {m:A0->A1->Option B} [l0:Dc d0 t0] [l1:Dc d1 t1] (h:∀ q0 q1 r,m q0 q1=some r->Con P k [] pure [t0 q0,t1 q1] (g r)):aA P k ⟨[],pure,fn2 d0 d1 (fun q0 q1=>(m q0 q1).map g),false⟩:=ok2 (fun q0 q1 r e=>by obtain ⟨x,hx,rfl⟩:=cj.1 e; exact h q0 q1 x hx) l0.le l1.le
theorem om3 {m:A0->A1->A2->Option B} [l0:Dc d0 t0] [l1:Dc d1 t1] [l2:Dc d2 t2] (h:∀ q0 q1 q2 r,m q0 q1 q2=some r->Con P k [] pure [t0 q0,t1 q1,t2 q2] (g r)):aA P k ⟨[],pure,fn3 d0 d1 d2 (fun q0 q1 q2=>(m q0 q1 q2).map g),false⟩:=ok3 (fun q0 q1 q2 r e=>by obtain ⟨x,hx,rfl⟩:=cj.1 e; exact h q0 q1 q2 x hx) l0.le l1.le l2.le
theorem om4 {m:A0->A1->A2->A3->Option B} [l0:Dc d0 t0] [l1:Dc d1 t1] [l2:Dc d2 t2] [l3:Dc d3 t3] (h:∀ q0 q1 q2 q3 r,m q0 q1 q2 q3=some r->Con P k [] pure [t0 q0,t1 q1,t2 q2,t3 q3] (g r)):aA P k ⟨[],pure,fn4 d0 d1 d2 d3 (fun q0 q1 q2 q3=>(m q0 q1 q2 q3).map g),false⟩:=ok4 (fun q0 q1 q2 q3 r e=>by obtain ⟨x,hx,rfl⟩:=cj.1 e; exact h q0 q1 q2 q3 x hx) l0.le l1.le l2.le l3.le
theorem om6 {m:A0->A1->A2->A3->A4->A5->Option B} [l0:Dc d0 t0] [l1:Dc d1 t1] [l2:Dc d2 t2] [l3:Dc d3 t3] [l4:Dc d4 t4] [l5:Dc d5 t5] (h:∀ q0 q1 q2 q3 q4 q5 r,m q0 q1 q2 q3 q4 q5=some r->Con P k [] pure [t0 q0,t1 q1,t2 q2,t3 q3,t4 q4,t5 q5] (g r)):aA P k ⟨[],pure,fn6 d0 d1 d2 d3 d4 d5 (fun q0 q1 q2 q3 q4 q5=>(m q0 q1 q2 q3 q4 q5).map g),false⟩:=ok6 (fun q0 q1 q2 q3 q4 q5 r e=>by obtain ⟨x,hx,rfl⟩:=cj.1 e; exact h q0 q1 q2 q3 q4 q5 x hx) l0.le l1.le l2.le l3.le l4.le l5.le
def rs {cs:List C} {r0 r:C} (h:Con P k [] pure cs r0) (e:ROk r0 r:=by (try simp only [go_sem]); exact gK.h):Con P k [] pure cs r:=h.res e
def fk {fn:Func} {body:Code} (hf:P.funcs[k]?=some fn) {G:Nat->Nat->Option FnS} (hG:∀ d f fs,G d f=some fs->aA P f fs) {cs:List C} {r:C}
  (hW:Wk (EE P G [] noL) body (ap (EE P G [] noL) (Nz (EE P G [] noL) fn.results.toList pure r) []) ⟨tab fn.ntmps (BR au 0 cs),RZ⟩) (hb:fn.body=some body:=by rfl) (hname:(fn.name == "runtime.NumGoroutine") = false := by decide) (hok : jO body = true := by kernel_rfl)
  (hmix:P.follows .mixedOrders=true:=by exact mix) (hn:cs.length<=fn.ntmps:=by exact nb rfl):Con P k [] pure cs r:=Je hf hb hname hok hG [] hmix hn hW
end
abbrev vI (n:Int):C:=.val (.int .i64 n)
abbrev vB (b:Bool):C:=.val (.bool b)
abbrev vS (s:ByteArray):C:=.val (.string s)
abbrev sF (es:Nat) (l:List (List C)):C:=.sl false none es none l
abbrev sO (es:Nat) (l:List (List C)):C:=.sl true none es none l
abbrev vA (es:Nat) (r:List C):C:=.sl true none es (some 1) [r]
abbrev pF (n:Nat):C:=.pref n [] 0 0
attribute [go_sem] vI vB vS sF sO vA pF
def ag {P:Program} {k:FuncId} {pure:Bool} {cs cs':List C} {r:C} (h:Con P k [] pure cs r) (e:LeL cs' cs:=by
 repeat' first|exact LeL.nil|refine LeL.cons ?_ ?_|exact Le.dead _|refine Le.clo ?_|refine Le.iref1 ?_|(have q:=Dc.le h0; exact q)|(have q:=Dc.le h1; exact q)|(have q:=Dc.le h2; exact q)|(have q:=Dc.le h3; exact q)|(have q:=Dc.le h4; exact q)|(have q:=Dc.le h5; exact q)|(have q:=Dc.le h6; exact q)|(have q:=Dc.le h7; exact q)|(have q:=Dc.le h8; exact q)|(have q:=Dc.le h9; exact q)|(have q:=Dc.le h10; exact q)|(have q:=Dc.le h11; exact q)|(have q:=Dc.le h12; exact q)|(have q:=Dc.le h13; exact q)|(have q:=Dc.le h14; exact q)|(have q:=Dc.le h15; exact q)|(have q:=Dc.le h16; exact q)|(have q:=Dc.le h17; exact q)):Con P k [] pure cs' r:=h.args e
end Go.Abs
