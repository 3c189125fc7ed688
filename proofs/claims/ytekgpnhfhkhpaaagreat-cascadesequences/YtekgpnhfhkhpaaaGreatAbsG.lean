/- A library of readings of Go values with their ownership,and of walks on them. No statement of the program. -/
import Derived.Test.YtekgpnhfhkhpaaaGreatAbsF
import Derived.Shelf.SlSortCmp.Whole1
import Derived.Shelf.SlSortCmp.WholeK
import Derived.Shelf.Sort.Plain
set_option linter.unusedSimpArgs false
set_option linter.unusedVariables false
namespace Go.Abs
open Go.Proofs Go.Sort Go.Shelf Go.RowKit Go.Lib
theorem FrK.grown {w w':World} (h:FrK w (fun _=>False) w'):∃ q os,w'=grow (w.drewN q) os:=by
 refine ⟨w'.drawn - w.drawn,w'.heap.extract w.heap.size w'.heap.size,?_⟩;have hh:w'.heap=w.heap++w'.heap.extract w.heap.size w'.heap.size:=by
  apply Array.ext_getElem?;intro i;have hs:=h.size;rw [Array.getElem?_append];by_cases hi:i < w.heap.size
  ·rw [if_pos hi]; exact h.block i hi id
  ·rw [if_neg hi,Array.getElem?_extract];by_cases h2:i < w'.heap.size
   ·rw [if_pos (by omega)]; congr 1; omega
   ·rw [if_neg (by omega)]; exact Array.getElem?_eq_none (by omega)
 have h1:=h.drawn; have h2:=h.os; have h3:=h.tape; have h4:=h.output;obtain ⟨a,b,c,d,e⟩:=w;obtain ⟨a',b',c',d',e'⟩:=w';simp only at h1 h2 h3 h4 hh;simp only [grow,World.drewN];subst h2 h3 h4;have:c+(c' - c)=c':=by omega
 rw [this,<-hh]
section
variable {α:Type} [Inhabited α] {enc:α->Value} {w:World} {blk0 off m:Nat} {d:Array α} {os:Array Obj}
theorem sn {b:Nat} (h:b≠blk0) (hb:b < w.heap.size):(sortWorld enc w blk0 off m d os).heap[b]?=w.heap[b]?:=by
 show ((w.heap.modify blk0 _)++os)[b]?=_;rw [Array.getElem?_append,if_pos (by simpa using hb),Array.getElem?_modify,if_neg (Ne.symm h)]
theorem vn {arr:Array Value} {e:TypeId} {fz:Nat × Nat} (h:w.heap[blk0]?=some (.cells arr e fz)):(sortWorld enc w blk0 off m d os).heap[blk0]?=some (.cells (putCells enc off d arr) e fz):=by
 have hb:blk0 < w.heap.size:=(Array.getElem?_eq_some_iff.1 h).1;show ((w.heap.modify blk0 _)++os)[blk0]?=_;rw [Array.getElem?_append,if_pos (by simpa using hb),Array.getElem?_modify,if_pos rfl,h];rfl
theorem ua:w.heap.size<=(sortWorld enc w blk0 off m d os).heap.size:=by
 show _<=((w.heap.modify blk0 _)++os).size;simp
end
theorem AK {α:Type} {row:α->List C} {enc:α->List Value} (hrow:∀ x,row x=(enc x).map .val) {l:List α} {nl:Option Bool} {es:Nat} {cap:Option Nat} {p:Path} (h:OwnAt (.sl true nl es cap (l.map row)) p):p=[]:=by
 cases p with
 | nil=>rfl
 | cons s p=>
  exfalso;simp only [OwnAt,C.at,C.kid,List.getElem?_map] at h;cases hx:l[s.1]? with
  | none=>simp [hx] at h
  | some x=>
   simp only [hx,Option.map_some,Option.bind_some,hrow,List.getElem?_map] at h;cases hy:(enc x)[s.2]? with
   | none=>simp [hy] at h
   | some y=>
    simp only [hy,Option.map_some,Option.bind_some] at h;cases p with
    | nil=>simp [C.at,C.isOwn] at h
    | cons s' p=>simp [C.at,C.kid] at h
theorem BB {cs:List C} {n:Nat} {p:Path} (h:OwnAt (Rl 1 cs n) p):n=0:=by
 unfold Rl at h;split at h
 ·omega
 ·exact (aA h).elim
noncomputable def sortM {α:Type} [Inhabited α] (c:α->α->Option Int) (l:List α):Option (List α):=by
 classical exact
 if (∀ x y,∃ r,c x y=some r)/\SWO (ltOf fun x y=>(c x y).getD 0)/\l.length < 4611686018427387904 then some (pdq (ltOf fun x y=>(c x y).getD 0) l.toArray 0 l.length (Lib.bitLen l.length) true true).toList else none
theorem ze {α:Type} [Inhabited α] {c:α->α->Option Int} {l r:List α} (h:sortM c l=some r) :
  (∀ x y,∃ r,c x y=some r)/\SWO (ltOf fun x y=>(c x y).getD 0)/\l.length < 4611686018427387904/\r=(pdq (ltOf fun x y=>(c x y).getD 0) l.toArray 0 l.length (Lib.bitLen l.length) true true).toList:=by
 unfold sortM at h;split at h
 ·rename_i hc; cases h; exact ⟨hc.1,hc.2.1,hc.2.2,rfl⟩
 ·cases h
theorem wY {α:Type} [Inhabited α] {c:α->α->Option Int} {l r:List α} (h:sortM c l=some r):r.Perm l/\r.Pairwise fun a b=>¬ (c b a).getD 0 < 0:=by
 obtain ⟨_,hO,_,rfl⟩:=ze h;have:=pdq_sorts (ltOf fun x y=>(c x y).getD 0) hO l.toArray 0 l.toArray.size (Lib.bitLen l.toArray.size) true true (Nat.zero_le _) (Nat.le_refl _) (Or.inl rfl);simp only [List.size_toArray] at this;generalize pdq (ltOf fun x y=>(c x y).getD 0) l.toArray 0 l.length (Lib.bitLen l.length) true true=d at this ⊢;obtain ⟨⟨h1,_,h3⟩,h4⟩:=this;simp only [List.size_toArray] at h1;constructor
 ·have e1:d.extract 0 l.length=d:=by rw [<-h1]; simp
  have e2:l.toArray.extract 0 l.length=l.toArray:=by simp
  rw [e1,e2] at h3;simpa using h3
 ·rw [List.pairwise_iff_getElem];intro i j hi hj hij;have hi':i < d.size:=by simpa using hi
  have hj':j < d.size:=by simpa using hj
  have:=h4 i j (Nat.zero_le _) hij (by omega);rw [getElem!_pos d j hj',getElem!_pos d i hi',ltOf] at this;simpa using this
theorem DO {α:Type} [Inhabited α] {c:α->α->Option Int} {l r:List α} (h:sortM c l=some r):r.length=l.length:=(wY h).1.length_eq
theorem EA {α:Type} [Inhabited α] {c:α->α->Option Int} {l:List α} (h1:∀ x y,∃ r,c x y=some r) (h2:SWO (ltOf fun x y=>(c x y).getD 0)) (h3:l.length < 4611686018427387904):∃ r,sortM c l=some r:=by
 unfold sortM;rw [if_pos ⟨h1,h2,h3⟩];exact ⟨_,rfl⟩
end Go.Abs

namespace Go.Abs
open Go.Proofs Go.Sort Go.Shelf Go.RowKit Go.Lib
theorem Bu {w:World} {S:Nat->Prop} {L:C->Value->Prop} {m:Path->Value} {o:Bool} {p:Path} (vs:List Value):rel w S L m o 2 p (.agg (vs.map .val)) (.agg vs.toArray):=by
 refine ⟨vs.toArray,rfl,by simp,fun j c' hc=>?_⟩;rw [List.getElem?_map] at hc;cases hv:vs[j]? with
 | none=>rw [hv] at hc; simp at hc
 | some v=>
  rw [hv] at hc;simp only [Option.map_some,Option.some.injEq] at hc;subst hc;exact ⟨v,by simpa using hv,rfl⟩
theorem BX {P:Program} {α:Type} [Inhabited α] {enc:α->List Value} {kk:Nat} {g:FuncId} (eg:∀ args w,(callFunc g args).run P w=.ok (.enter g args) w) {caps:List C} {cf:α->α->Int}
  (hcmp:∀ x y,∃ pu,Con P g [] pu ([.agg ((enc x).map .val),.agg ((enc y).map .val)]++caps) (.val (.int .i64 (cf x y)))) {w:World} {S:Nat->Prop} {b off n:Nat} {arr1:Array Value} (hS:∀ x,S x->x≠b) (hsz:arr1.size=caps.length)
  (hr:∀ (j:Nat) (c':C),caps[j]?=some c'->∃ u' d p,arr1[j]?=some u'/\rel w S L0 dm false d p c' u'):CmpLays P g arr1 enc kk cf b off n w:=by
 intro mm os dk hs x y;obtain ⟨pu,hc⟩:=hcmp x y;have hD:=hc (sortWorldK enc kk w b off mm dk os) S (fun _=>dm) ([.agg (enc x).toArray,.agg (enc y).toArray]++arr1.toList) (by simp [hsz]) (by
  intro i c hi
  match i with
  | 0=>simp only [List.cons_append,List.getElem?_cons_zero,Option.some.injEq] at hi; subst hi; exact ⟨_,2,rfl,Bu (enc x)⟩
  | 1=>simp only [List.cons_append,List.getElem?_cons_succ,List.getElem?_cons_zero,Option.some.injEq] at hi; subst hi; exact ⟨_,2,rfl,Bu (enc y)⟩
  | j+2=>
   simp only [List.cons_append,List.nil_append,List.getElem?_cons_succ] at hi;obtain ⟨u',d,p,e1,e2⟩:=hr j c hi;refine ⟨u',d,by simpa using e1,?_⟩;simp only [List.getD_nil,R0_nil];exact aq (fun z hz hb=>⟨⟨hb,dO⟩,sn (enc:=id) (d:=flatK enc kk dk) (hS z hb) hz⟩) d (fun _ _ _ h=>h) (fun h=>by simp at h) (fun h=>by simp at h) e2) (by
  intro n p n' p' z h1;rw [R0_nil] at h1;exact (aA h1).elim)
 rcases hD with ⟨_,hD⟩|⟨u,w',hv,_⟩
 ·have ea:([Value.agg (enc x).toArray,Value.agg (enc y).toArray]++arr1.toList).toArray=#[Value.agg (enc x).toArray,Value.agg (enc y).toArray]++arr1:=by
   apply Array.ext'; simp
  rw [ea] at hD;refine hD.mono fun e w' h=>?_;obtain ⟨u,rfl,mr,d,q1,_,_,q4⟩:=h;have hu:u=.int .i64 (cf x y):=by
   cases d with
   | zero=>exact q1.elim
   | succ d=>exact q1
  subst hu;have hfr:FrK (sortWorldK enc kk w b off mm dk os) (fun _=>False) w':=⟨q4.os,q4.tape,q4.output,q4.drawn,q4.size,fun z hz _=>q4.block z hz (by rw [R0_nil]; exact dO)⟩;exact ⟨rfl,hfr.grown⟩
 ·rw [eg] at hv; cases hv
theorem div_ij {i k j:Nat} (h:j < k):(i * k+j) / k=i/\(i * k+j) % k=j:=by
 constructor
 ·rw [Nat.mul_comm,Nat.mul_add_div (by omega),Nat.div_eq_of_lt h]; rfl
 ·rw [Nat.mul_comm,Nat.mul_add_mod,Nat.mod_eq_of_lt h]
theorem D6 {i k j n:Nat} (hi:i < n) (hj:j < k):i * k+j < n * k:=by
 have:=Nat.mul_le_mul_right k (show i+1<=n from hi);rw [Nat.add_mul,Nat.one_mul] at this; omega
theorem Ei {P:Program} {ρ:Ren} (L:SlLaysF0.n6 P ρ) {α:Type} [Inhabited α] (kk:Nat) (hk0:0 < kk) (aE:∀ w,(isAgg (ρ.t 24)).run P w=.ok true w) (zE:∀ w,(Go.sizeOf (ρ.t 24)).run P w=.ok kk w)
  (enc:α->List Value) (hk:∀ x,(enc x).length=kk) (h1:∀ x,∀ v∈enc x,v.oneCell'=true) (row:α->List C) (hrow:∀ x,row x=(enc x).map .val) {f g:FuncId} (hf:ρ.f 6=f)
  (ef:∀ args w,(callFunc f args).run P w=.ok (.enter f args) w) (eg:∀ args w,(callFunc g args).run P w=.ok (.enter g args) w) {caps:List C} {cf:α->α->Int} (hO:SWO (ltOf cf))
  (hcmp:∀ x y,∃ pu,Con P g [] pu ([.agg ((enc x).map .val),.agg ((enc y).map .val)]++caps) (.val (.int .i64 (cf x y)))) {l:List α} (hne:l≠[]) (hl:l.length < 4611686018427387904) (hgB:g < B0:=by decide) :
  ConL P f 1 [.sl true none kk none (l.map row),.clo g caps] (.tup []) [.sl true none kk none ((pdq (ltOf cf) l.toArray 0 l.length (Lib.bitLen l.length) true true).toList.map row)]:=by
 intro w S m us hlen hrest hlent hinj;have hpos:0 < l.length:=List.length_pos_iff.2 hne;obtain ⟨u0,d0,hu0,hd0,hr0⟩:=hlent 0 _ rfl (by omega);obtain ⟨u1,d1,hu1,hr1⟩:=hrest 1 _ rfl (by omega);have hus:us=[u0,u1]:=by
  match us,hlen,hu0,hu1 with
  | [x,y],_,h0,h1=>simp at h0 h1; rw [h0,h1]
 subst hus;cases d0 with
 | zero=>exact hr0.elim
 | succ d0=>
 obtain ⟨a,k,e1,e2,e3,e4,ez,e5,e6,e7⟩:=hr0;rw [List.length_map] at e1 e2;rcases e7 with hk0'|⟨hb,_⟩|⟨b,off,arr,elem,frz,g1,g2,g3,g4,g5⟩
 ·omega
 ·simp at hb
 subst g1;obtain ⟨rfl,hfit⟩:=g4 rfl;have hu:u0=.slice (some ⟨b,off,none⟩) l.length k:=by
  simp only [Hd,lentSh] at hd0;rcases hd0 with h|⟨a,a',h,h'⟩
  ·rw [h,e1]
  ·rw [e1] at h';simp only [Value.slice.injEq] at h';omega
 subst hu;cases d1 with
 | zero=>exact hr1.elim
 | succ d1=>
 obtain ⟨arr1,hcv,hsz1,hcaps⟩:=hr1;have hcv2:cloV g arr1=.func (.func g) #[] arr1:=if_pos hgB;rw [hcv2] at hcv;subst hcv;have hown:OwnAt (Rl 1 [C.sl true none kk none (l.map row),C.clo g caps] 0) []:=rfl;have hblk:blk (m 0 [])=some b:=by rw [e1]; simp only [blk]; rw [if_neg (by omega)]
 have hbsz:b < w.heap.size:=(Array.getElem?_eq_some_iff.1 g2).1;have hlk:l.length * kk<=k * kk:=Nat.mul_le_mul_right _ e2;have hcell:∀ i (hi:i < l.length) j (hj:j < kk),arr[off+(i * kk+j)]?=some ((enc l[i])[j]'(by rw [hk]; exact hj)):=by
  intro i hi j hj;have hrj:(l.map row)[i]?=some (row l[i]):=by rw [List.getElem?_map,List.getElem?_eq_getElem hi]; rfl
  have hje:j < (enc l[i]).length:=by rw [hk]; exact hj
  obtain ⟨u',q1,q2⟩:=g5 i j (row l[i]) (.val ((enc l[i])[j]'hje)) hrj (by rw [hrow,List.getElem?_map,List.getElem?_eq_getElem hje]; rfl);cases d0 with
  | zero=>exact q2.elim
  | succ d0=>
   have:u'=(enc l[i])[j]'hje:=q2;subst this;rw [<-Nat.add_assoc]; exact q1
 have hH:HoldsK enc kk w b off l.toArray:=by
  intro t ht;have ht':t < l.length * kk:=by simpa using ht
  have hti:t / kk < l.length:=Nat.div_lt_of_lt_mul (by rw [Nat.mul_comm]; exact ht');have htj:t % kk < kk:=Nat.mod_lt _ hk0;have hte:t=t / kk * kk+t % kk:=by rw [Nat.mul_comm]; exact (Nat.div_add_mod t kk).symm
  have e:l.toArray[t / kk]! = l[t / kk]:=by rw [getElem!_pos l.toArray (t / kk) (by simpa using hti)]; simp
  have hje:t % kk < (enc l[t / kk]).length:=by rw [hk]; exact htj
  constructor
  ·simp only [World.cell?,g2,Option.isSome_none,Bool.false_eq_true,if_false];have:=hcell (t / kk) hti (t % kk) htj;rw [<-hte] at this;rw [this,get_flatK enc kk l.toArray t (by simpa using ht'),e,getElem!_pos (enc l[t / kk]) (t % kk) hje];rfl
  ·simp only [World.frozen?,g2];simp
 have hcl:CmpLays P g arr1 enc kk cf b off l.toArray.size w:=BX eg hcmp (S:=fun b'=>S b'/\¬ Owned (Rl 1 [C.sl true none kk none (l.map row),C.clo g caps]) m b')
  (fun x hx e=>hx.2 (by subst e; exact ⟨0,[],hown,hblk⟩)) hsz1 (fun j c' hc'=>let ⟨u',q1,q2⟩:=hcaps j c' hc'; ⟨u',_,_,q1,q2⟩)
 have hcon:=AnyQ.slices_SortFunc_eq L kk aE zE enc hk h1 cf hO g arr1 b off k l.toArray w eg hcl hH hbsz (by simpa using hl);have hps:=(pdq_sorts (ltOf cf) hO l.toArray 0 l.toArray.size (Lib.bitLen l.toArray.size) true true (Nat.zero_le _) (Nat.le_refl _) (Or.inl rfl)).1.1;rw [hf] at hcon;simp only [List.size_toArray] at hcon hps;generalize hd':pdq (ltOf cf) l.toArray 0 l.length (Lib.bitLen l.length) true true=d' at hcon hps ⊢;have hown':OwnAt (Rl 1 [C.sl true none kk none (d'.toList.map row)] 0) []:=rfl;have hp0:∀ {n p},OwnAt (Rl 1 [C.sl true none kk none (d'.toList.map row)] n) p->n=0/\p=[]:=by
  intro n p h;obtain rfl:=BB h;exact ⟨rfl,AK hrow h⟩
 left;refine ⟨ef _ _,hcon.mono ?_⟩;rintro e w' ⟨rfl,n,os,rfl⟩;refine ⟨_,rfl,m,⟨1,#[],rfl,rfl,by simp⟩,?_,?_,?_,?_⟩
 ·intro i c hi
  match i with
  | i+1=>simp at hi
  | 0=>
  simp only [List.getElem?_cons_zero,Option.some.injEq] at hi;subst hi;refine ⟨rfl,m 0 [],2,?_⟩;have hdl:(d'.toList.map row).length=l.length:=by simp [hps]
  refine ⟨some ⟨b,off,none⟩,k,by rw [hdl,e1],by rw [hdl]; exact e2,e3,by simp,⟨by simp,by simp⟩,?_,fun _=>rfl,.inr (.inr ⟨b,off,putCells id off (flatK enc kk d') arr,elem,(0,0),rfl,vn (enc:=id) (d:=flatK enc kk d') g2,by simp,fun _=>⟨rfl,by simpa [putCells] using hfit⟩,?_⟩)⟩
  ·intro r hr;obtain ⟨x,_,rfl⟩:=List.mem_map.1 hr;rw [hrow,List.length_map,hk]
  ·intro i j r c' hi hj;rw [List.getElem?_map] at hi;cases hx:d'.toList[i]? with
   | none=>rw [hx] at hi; simp at hi
   | some x=>
    rw [hx] at hi;simp only [Option.map_some,Option.some.injEq] at hi;subst hi;rw [hrow,List.getElem?_map] at hj;cases hv:(enc x)[j]? with
    | none=>rw [hv] at hj; simp at hj
    | some v=>
    rw [hv] at hj;simp only [Option.map_some,Option.some.injEq] at hj;subst hj;have hjl:j < (enc x).length:=(List.getElem?_eq_some_iff.1 hv).1;have hjk:j < kk:=by rw [<-hk x]; exact hjl
    have hil:i < d'.size:=by have:=(List.getElem?_eq_some_iff.1 hx).1; simpa using this
    have hxi:d'[i]! = x:=by
     rw [getElem!_pos d' i hil];have:=(List.getElem?_eq_some_iff.1 hx).2;simpa using this
    have ht:i * kk+j < d'.size * kk:=D6 hil hjk;rw [hps] at ht;refine ⟨v,?_,rfl⟩;have hin:off+(i * kk+j) < arr.size:=by omega
    have hge:(flatK enc kk d')[i * kk+j]! = v:=by
     obtain ⟨q1,q2⟩:=div_ij (i:=i) hjk;rw [get_flatK enc kk d' _ (by rw [hps]; exact ht),q1,q2,hxi,getElem!_pos (enc x) j hjl];exact (List.getElem?_eq_some_iff.1 hv).2
    rw [Nat.add_assoc];simp only [putCells,Array.getElem?_mapIdx];rw [Array.getElem?_eq_getElem hin,Option.map_some,if_pos ⟨by omega,by rw [size_flatK,hps]; omega⟩,show off+(i * kk+j) - off=i * kk+j by omega,hge];rfl
 ·intro n p n' p' z h1 h2 _ _;obtain ⟨rfl,rfl⟩:=hp0 h1;obtain ⟨rfl,rfl⟩:=hp0 h2;exact ⟨rfl,rfl⟩
 ·rintro z ⟨n,p,h1,h2⟩;obtain ⟨rfl,rfl⟩:=hp0 h1;exact .inr ⟨0,[],hown,h2⟩
 ·refine ⟨rfl,rfl,rfl,Nat.le_add_right _ _,ua (enc:=id) (d:=flatK enc kk d'),fun z hz hno=>sn (enc:=id) (d:=flatK enc kk d') ?_ hz⟩;rintro rfl;exact hno ⟨0,[],hown,hblk⟩
end Go.Abs

namespace Go.Abs
open Go.Proofs Go.Sort Go.Shelf Go.RowKit Go.Lib
def sortI (l:List Int):Option (List Int):=if l.length < 4611686018427387904 then some (l.mergeSort fun x y=>decide (x<=y)) else none
theorem y5 {l r:List Int} (h:sortI l=some r):l.length < 4611686018427387904/\r=l.mergeSort fun x y=>decide (x<=y):=by
 unfold sortI at h;split at h
 ·rename_i hl; cases h; exact ⟨hl,rfl⟩
 ·cases h
theorem wZ {l r:List Int} (h:sortI l=some r):r.Perm l/\r.Pairwise (·<=·):=by
 obtain ⟨_,rfl⟩:=y5 h;refine ⟨List.mergeSort_perm l _,?_⟩;have:=List.pairwise_mergeSort (le:=fun x y:Int=>decide (x<=y)) (fun a b c h1 h2=>by simp only [decide_eq_true_eq] at *; omega) (fun a b=>by simp only [Bool.or_eq_true,decide_eq_true_eq]; omega) l;exact this.imp (fun h=>by simpa using h)
theorem zP {l r:List Int} (h:sortI l=some r):r.length=l.length:=(wZ h).1.length_eq
theorem DR {P:Program} {ρ:Ren} (L:Lays.n189 P ρ) {f:FuncId} (hf:ρ.f 189=f) (ef:∀ args w,(callFunc f args).run P w=.ok (.enter f args) w) {l r:List Int} (hne:l≠[]) (hr:sortI l=some r) :
  ConL P f 1 [.sl true none 1 none (l.map (rowI .i64))] (.tup []) [.sl true none 1 none (r.map (rowI .i64))]:=by
 obtain ⟨hl,he⟩:=y5 hr;have hps:=zP hr;intro w S m us hlen hrest hlent hinj;have hpos:0 < l.length:=List.length_pos_iff.2 hne;obtain ⟨u0,d0,hu0,hd0,hr0⟩:=hlent 0 _ rfl (by omega);have hus:us=[u0]:=by
  match us,hlen,hu0 with
  | [x],_,h0=>simp at h0; rw [h0]
 subst hus;cases d0 with
 | zero=>exact hr0.elim
 | succ d0=>
 obtain ⟨a,k,e1,e2,e3,e4,ez,e5,e6,e7⟩:=hr0;rw [List.length_map] at e1 e2;rcases e7 with hk0|⟨hb,_⟩|⟨b,off,arr,elem,frz,g1,g2,g3,g4,g5⟩
 ·omega
 ·simp at hb
 subst g1;obtain ⟨rfl,hfit⟩:=g4 rfl;have hu:u0=.slice (some ⟨b,off,none⟩) l.length k:=by
  simp only [Hd,lentSh] at hd0;rcases hd0 with h|⟨a,a',h,h'⟩
  ·rw [h,e1]
  ·rw [e1] at h';simp only [Value.slice.injEq] at h';omega
 subst hu;have hown:OwnAt (Rl 1 [C.sl true none 1 none (l.map (rowI .i64))] 0) []:=rfl;have hblk:blk (m 0 [])=some b:=by rw [e1]; simp only [blk]; rw [if_neg (by omega)]
 have hbsz:b < w.heap.size:=(Array.getElem?_eq_some_iff.1 g2).1;have hcell:∀ j (hj:j < l.length),arr[off+j]?=some (.int .i64 l[j]):=by
  intro j hj;have hrj:(l.map (rowI .i64))[j]?=some (rowI .i64 l[j]):=by rw [List.getElem?_map,List.getElem?_eq_getElem hj]; rfl
  obtain ⟨u',q1,q2⟩:=g5 j 0 (rowI .i64 l[j]) (.val (.int .i64 l[j])) hrj rfl;cases d0 with
  | zero=>exact q2.elim
  | succ d0=>
   have:u'=.int .i64 l[j]:=q2;subst this;simpa using q1
 have hH:Holds (Value.int .i64) w b off l.toArray:=by
  intro j hj;have hj':j < l.length:=by simpa using hj
  have e:l.toArray[j]! = l[j]:=by rw [getElem!_pos l.toArray j hj]; simp
  constructor
  ·simp only [World.cell?,g2,Option.isSome_none,Bool.false_eq_true,if_false];rw [hcell j hj',e]
  ·simp only [World.frozen?,g2];simp
 have hcon:=Any.slices_Sort_int L b off k l w hH hbsz hl;rw [hf,<-he] at hcon;have hp0:∀ {n p},OwnAt (Rl 1 [C.sl true none 1 none (r.map (rowI .i64))] n) p->n=0/\p=[]:=by
  intro n p h;obtain rfl:=BB h;exact ⟨rfl,AK (enc:=fun x=>[.int .i64 x]) (fun x=>rfl) h⟩
 left;refine ⟨ef _ _,hcon.mono ?_⟩;rintro e w' ⟨rfl,n,os,hw'⟩;have hw:w'=sortWorld (Value.int .i64) w b off n r.toArray os:=hw';subst hw;refine ⟨_,rfl,m,⟨1,#[],rfl,rfl,by simp⟩,?_,?_,?_,?_⟩
 ·intro i c hi
  match i with
  | i+1=>simp at hi
  | 0=>
  simp only [List.getElem?_cons_zero,Option.some.injEq] at hi;subst hi;refine ⟨rfl,m 0 [],2,?_⟩;have hdl:(r.map (rowI .i64)).length=l.length:=by simp [hps]
  refine ⟨some ⟨b,off,none⟩,k,by rw [hdl,e1],by rw [hdl]; exact e2,e3,by simp,⟨by simp,by simp⟩,?_,fun _=>rfl,.inr (.inr ⟨b,off,putCells (Value.int .i64) off r.toArray arr,elem,(0,0),rfl,vn g2,by simp,fun _=>⟨rfl,by simpa [putCells] using hfit⟩,?_⟩)⟩
  ·intro q hq;obtain ⟨x,_,rfl⟩:=List.mem_map.1 hq;rfl
  ·intro i j q c' hi hj;rw [List.getElem?_map] at hi;cases hx:r[i]? with
   | none=>rw [hx] at hi; simp at hi
   | some x=>
    rw [hx] at hi;simp only [Option.map_some,Option.some.injEq] at hi;subst hi
    match j with
    | j+1=>simp [rowI] at hj
    | 0=>
    have hc:c'=.val (.int .i64 x):=by simpa [rowI] using hj.symm
    subst hc;have hil:i < r.length:=(List.getElem?_eq_some_iff.1 hx).1;have hxi:r.toArray[i]! = x:=by
     rw [getElem!_pos r.toArray i (by simpa using hil)];have:=(List.getElem?_eq_some_iff.1 hx).2;simpa using this
    refine ⟨.int .i64 x,?_,rfl⟩;have hin:off+i < arr.size:=by omega
    simp only [putCells,Array.getElem?_mapIdx,Nat.mul_one,Nat.add_zero];rw [Array.getElem?_eq_getElem hin,Option.map_some,if_pos ⟨by omega,by simp; omega⟩,show off+i - off=i by omega,hxi]
 ·intro n p n' p' z h1 h2 _ _;obtain ⟨rfl,rfl⟩:=hp0 h1;obtain ⟨rfl,rfl⟩:=hp0 h2;exact ⟨rfl,rfl⟩
 ·rintro z ⟨n,p,h1,h2⟩;obtain ⟨rfl,rfl⟩:=hp0 h1;exact .inr ⟨0,[],hown,h2⟩
 ·refine ⟨rfl,rfl,rfl,Nat.le_add_right _ _,ua,fun z hz hno=>sn ?_ hz⟩;rintro rfl;exact hno ⟨0,[],hown,hblk⟩
end Go.Abs
