/- A library of readings of Go values with their ownership,and of walks on them. No statement of the program. -/
import Derived.Test.YtmacaidmhchpgaaGreatAbsA
import Derived.Deep.Upon
import Derived.Laws.IdiomCopy
import Derived.Lib.AppendZerosOnto
import Derived.Laws.MakeOwn
set_option linter.defProp false
set_option linter.unusedSimpArgs false
set_option linter.unusedVariables false
namespace Go.Abs
def frzRows (rows:List (List C)):List (List C):=rows.map (·.map C.frz)
def plainCell (c:C):Bool:=c.cellOk && !c.isOwn
def jO (st:St) (es:Nat):C->Option (List (List C))
 | .val (.slice none 0 0)=>some []
 | .sl _ _ es' _ rows=>if es'=es/\rows.all (·.all C.cellOk)=true then some (frzRows rows) else none
 | .pal n p lo len _=>match st.node n p with
  | some (.sl true _ es' _ rows)=>if es'=es/\((rows.drop lo).take len).all (·.all plainCell)=true then some (frzRows ((rows.drop lo).take len)) else none
  | _=>none
 | _=>none
def adopt (d es:Nat) (st:St):St:={ st with roots:=upd st.roots d (.sl true none es none []) }
def wE (d es:Nat) (s:C) (st:St):Option (St × List (List C)):=
 match s with
 | .val (.slice none 0 0)=>some (adopt d es (st.fresh d),[])
 | .sl _ _ es' (some 0) []=>if es'=es then some (adopt d es (st.fresh d),[]) else none
 | .pal n p lo len cap=>match st.node n p with
  | some (.sl true _ es' _ rows)=>if es'=es then
    if n=d then (if p=[]/\lo=0/\len=rows.length then some (st,rows) else none)
    else if n < H0 then some ((st.fresh d).move n p lo len cap d es rows,(rows.drop lo).take len) else none
   else none
  | _=>none
 | _=>none
def grown (d es:Nat) (rows:List (List C)) (st:St):St:=
 {tmps:=st.tmps.map (poi fun n' _=>n' == d),roots:=upd st.roots d (.sl true none es none rows) }
def zj (E:Env) (d:Nat) (ti:TI) (s x:Operand) (st:St):Option St:=
 match ti.kind with
 | .slice e es=>match E.T e with
  | some te=>if es=0∨¬ d < H0 then none else match jO st es (st.ev x) with
   | some extra=>match wE d es (st.ev s) st with
    | some (st1,rows)=>if (rows.length+extra.length) * (te.bytes - 1+1)<=140737488355328 then
      some { (grown d es (rows++extra) st1) with tmps:=(grown d es (rows++extra) st1).tmps.set d (.pal d [] 0 (rows++extra).length none) } else none
    | none=>none
   | none=>match st.ev x with
    | .pal n p lo 1 _=>match st.node n p with
     | some (.sl true _ es' _ srows)=>match srows[lo]? with
      | some row=>if es'=es then match jz es H0 (kf n p lo 0 row) (st.ev s) st with
        | some (st',s')=>match wE d es s' st' with
         | some (st1,rows)=>if (rows.length+1) * (te.bytes - 1+1)<=140737488355328 then
           match mG d [] rows.length 0 es H0 (grown d es (rows++[row.map fun _=>.dead]) st1) with
           | some st2=>some { st2 with tmps:=st2.tmps.set d (.pal d [] 0 (rows.length+1) none) }
           | none=>none
          else none
         | none=>none
        | none=>none
       else none
      | none=>none
     | _=>none
    | _=>none
  | none=>none
 | _=>none
section
variable {X:Ctx} {m:Nat->aq->Value} {st:St} {a:Act} {w:World} {P:Program}
theorem ar.adopt (h:ar X m st a w) {d:Nat} (hd:st.roots d=.dead) (es:Nat) (ad:Option Addr) :
  ar X (kV m d (.slice ad 0 0)) (adopt d es st) a w/\eF X m st w (kV m d (.slice ad 0 0)) (adopt d es st) w [d]:=by
 have hnb:∀ b,blk (.slice ad 0 0)≠some b:=by intro b; cases ad<;>simp [blk]
 have hown:∀ p,ak (.sl true none es none []) p->p=[]:=by
  intro p ho;cases p with
  | nil=>rfl
  | cons s p=>simp [ak,C.at,C.kid] at ho
 refine Bm h ?_;refine ⟨rfl,?_,fun _ _ _=>rfl,cw _,⟨fun n p=>(n,p),none,?_,?_⟩,?_,?_,rfl,rfl,rfl,cw _⟩
 ·intro t c ht;refine .inr ⟨ht,fun v u dd ho hl=>?_⟩;cases hp:v.place with
  | none=>cases v<;>simp [C.place] at hp<;>exact hl.elim
  | some np=>
   obtain ⟨n',p⟩:=np;have hne:n'≠d:=by rintro rfl; exact yU hp hl hd
   refine kH hp (gQ _ _ _ (fun e=>hne e.1)) ?_ hl;intro nl es2 cap2 rows2 he;exact ⟨cap2,rows2,by simpa [Abs.adopt,aN hne] using he,rfl⟩
 ·intro n p b ho hb;by_cases e:n=d
  ·subst e;simp only [Abs.adopt,aC] at ho;obtain rfl:=hown p ho;rw [br] at hb;exact (hnb b hb).elim
  ·simp only [Abs.adopt,aN e] at ho;rw [gQ _ _ _ (fun h=>e h.1)] at hb;exact .inr ⟨by simp,ho,hb,h.lt ho hb⟩
 ·intro n p n' p' _ _ _ _ e; simpa using e
 ·intro n e;have e:n≠d:=by simpa using e
  exact ⟨by simp [Abs.adopt,aN e],fun q _=>gQ _ _ _ (fun h=>e h.1),fun q b ho hb hlt=>rfl⟩
 ·intro hS n e;obtain rfl:n=d:=by simpa using e
  refine ⟨kV m n (.slice ad 0 0) n [],2,?_⟩;simp only [Abs.adopt,aC];exact oe (d:=1) (a:=ad) (k:=0) (by rw [br]; rfl) (by simp) (by simp [maxLen]) (by simp) ⟨by simp,by simp⟩ (by simp) (.inl rfl)
structure Bx (P:Program) (X:Ctx) (m:Nat->aq->Value) (st:St) (w:World) (es:Nat) (t:TypeId) (u:Value) (extra:List (List C)) (news:List Value) (D:Nat):Prop where
 src:∀ w':World,w'.heap=w.heap->Src P es t u extra.length news w'
 len:news.length=extra.length * es
 rows:∀ row∈extra,row.length=es
 cell:∀ (i j:Nat) (row:List C) (c:C),extra[i]?=some row->row[j]?=some c->∃ v,news[i * es+j]?=some v/\bG w (X.S st.roots m) D c v
def VZ {arr:Array Value} {off es n:Nat} (hes:es≠0) {rows:List (List C)} (hlen:∀ row∈rows,row.length=es) (hn:rows.length=n)
  (h:∀ (i j:Nat) (row:List C) (c:C),rows[i]?=some row->row[j]?=some c->∃ u,arr[off+i * es+j]?=some u/\u.oneCell'=true) :
  ∃ news:List Value,news.length=n * es/\(∀ (x:Nat) (u:Value),news[x]?=some u->arr[off+x]?=some u)/\(∀ u∈news,u.oneCell'=true)/\∀ (x:Nat),x < n * es->∃ u,news[x]?=some u/\arr[off+x]?=some u:=by
 have key:∀ x,x < n * es->∃ u,arr[off+x]?=some u/\u.oneCell'=true:=by
  intro x hx;have hi:x / es < rows.length:=by rw [hn]; exact aem (by rw [n8]; exact hx)
  have hj:x % es < es:=Nat.mod_lt _ (by omega);have hr:rows[x / es]?=some rows[x / es]:=cn hi;have hrl:=hlen rows[x / es] (nw hi);obtain ⟨u,h1,h2⟩:=h (x / es) (x % es) _ _ hr (cn (by rw [hrl]; exact hj));have e:off+x / es * es+x % es=off+x:=by
   have:=Nat.div_add_mod x es;rw [n8] at this;omega
  exact ⟨u,by rw [<-e]; exact h1,h2⟩
 refine ⟨(List.range (n * es)).map fun x=>(arr[off+x]?).getD undef,by simp,?_,?_,?_⟩
 ·intro x u hx;simp only [cu,cj] at hx;obtain ⟨y,hy,rfl⟩:=hx;have hlt:=(cd.1 hy).1;simp only [adi] at hlt;have:y=x:=by rw [adj hlt] at hy; simpa using hy.symm
  subst this;obtain ⟨u,h1,_⟩:=key y hlt;simp [h1]
 ·intro u hu;simp only [cJ,nY] at hu;obtain ⟨x,hx,rfl⟩:=hu;obtain ⟨u,h1,h2⟩:=key x hx;simp [h1,h2]
 ·intro x hx;obtain ⟨u,h1,_⟩:=key x hx;exact ⟨u,by simp [hx,h1],h1⟩
theorem KC {rows:List (List C)} {i j:Nat} {row:List C} {c:C} (h1:(frzRows rows)[i]?=some row) (h2:row[j]?=some c):∃ r0 c0,rows[i]?=some r0/\r0[j]?=some c0/\c=c0.frz:=by
 simp only [frzRows,cu,cj] at h1;obtain ⟨r0,h1,rfl⟩:=h1;simp only [cu,cj] at h2;obtain ⟨c0,h2,rfl⟩:=h2;exact ⟨r0,c0,h1,h2,rfl⟩
def OM {S:Nat->Prop} {L:C->Value->Prop} {m:aq->Value} {o:Bool} {d:Nat} {p:aq} {c:C} {u:Value} (hc:c.cellOk=true) (ho:c.isOwn=false∨o=false) (h:rel w S L m o d p c u):rel w S L0 dm false d [] c u:=by
 cases d with
 | zero=>exact h.elim
 | succ d=>
  cases c with
  | dead=>trivial
  | val v=>exact h
  | sl own nl es cap rows=>
   have e:(own && o)=false:=by
    rcases ho with ho|ho
    ·cases own
     ·rfl
     ·simp [C.isOwn] at ho
    ·simp [ho]
   obtain ⟨a,k,h1,h2,h3,h4,hz,h5,h6,h7⟩:=h;refine ⟨a,k,h1,h2,h3,h4,hz,h5,by simp,?_⟩;rcases h7 with h7|h7|⟨b,off,arr,elem,frz,g1,g2,g3,g4,g5⟩
   ·exact .inl h7
   ·exact .inr (.inl ⟨by simp,h7.2⟩)
   ·refine .inr (.inr ⟨b,off,arr,elem,frz,g1,g2,fun _=>g3 e,by simp,fun i j row c' e1 e2=>?_⟩);obtain ⟨u',e3,e4⟩:=g5 i j row c' e1 e2;rw [e] at e4;exact ⟨u',e3,by simpa using db e4⟩
  | iref es rows i j=>
   obtain ⟨b,off,arr,elem,frz,g1,g2,g3,g4,g5⟩:=h;exact ⟨b,off,arr,elem,frz,g1,g2,g3,g4,fun i j row c' e1 e2=>let ⟨u',e3,e4⟩:=g5 i j row c' e1 e2; ⟨u',e3,db e4⟩⟩
  | clo f cs=>
   obtain ⟨arr,h1,h2,h3⟩:=h;refine ⟨arr,h1,h2,fun j c' e=>?_⟩;obtain ⟨u',e1,e2⟩:=h3 j c' e;refine ⟨u',e1,av (fun _ _ h=>⟨h,rfl⟩) d (fun v u ho hl=>?_) (fun h=>by simp at h) (fun h=>by simp at h) e2⟩;exact (Ag hc (d+1) ⟨c',cg e,ho⟩).elim
  | agg cs=>simp [C.cellOk] at hc
  | tup cs=>simp [C.cellOk] at hc
  | pref n q i j=>simp [C.cellOk] at hc
  | pal n q lo len cap=>simp [C.cellOk] at hc
def V0 {S:Nat->Prop} {c:C} {u:Value} {d:Nat} (hc:c.cellOk=true) (h:rel w S L0 dm false d [] c u):u.oneCell'=true:=by
 cases d with
 | zero=>exact h.elim
 | succ d=>
  cases c with
  | val v=>have:u=v:=h; subst this; exact hc
  | sl own nl es cap rows=>obtain ⟨a,k,rfl,_⟩:=h; rfl
  | clo f cs=>obtain ⟨arr,rfl,_⟩:=h; unfold DS; split<;>rfl
  | iref es rows i j=>obtain ⟨b,off,arr,elem,frz,rfl,_⟩:=h; rfl
  | _=>simp [C.cellOk] at hc
def Iq {w w':World} (h:w'.heap=w.heap) (x:Addr):w'.cell? x=w.cell? x:=by simp [World.cell?,h]
def wq {E:Env} (hT:TOk P E) (h:ar X m st a w) {t:Nat} {ti:TI} (ht:eS P t ti) {e es:Nat} (hkind:ti.kind=.slice e es) (hes:es≠0) {x:C} {u:Value} (hx:aB X m st w x u) {extra:List (List C)} (hs:jO st es x=some extra) :
  ∃ news D,Bx P X m st w es t u extra news D:=by
 obtain ⟨dd,hdd,_,hk⟩:=ht.und;rw [hkind] at hk;obtain ⟨rfl,_⟩:=hk;have fin:∀ (rows:List (List C)) (b off n k:Nat) (arr:Array Value) (elem:TypeId) (fz:Nat × Nat) (D:Nat),w.heap[b]?=some (.cells arr elem fz)->(∀ row∈rows,row.length=es)->rows.length=n ->
   (∀ (i j:Nat) (row:List C) (c:C),rows[i]?=some row->row[j]?=some c->c.cellOk=true/\∃ v,arr[off+i * es+j]?=some v/\rel w (X.S st.roots m) L0 dm false D [] c v) ->
   ∃ news D,Bx P X m st w es t (.slice (some ⟨b,off,none⟩) n k) (frzRows rows) news D:=by
  intro rows b off n k arr elem fz D hb hlen hn hcell;obtain ⟨news,n1,n2,n3,n4⟩:=VZ (arr:=arr) (off:=off) hes hlen hn (fun i j row c h1 h2=>by
   obtain ⟨c1,v,c2,c3⟩:=hcell i j row c h1 h2;exact ⟨v,c2,V0 c1 c3⟩)
  refine ⟨news,D,?_,by simp [frzRows,hn,n1],?_,?_⟩
  ·intro w' hw';have:(frzRows rows).length=n:=by simp [frzRows,hn]
   rw [this];refine Src.ofSlice w' hdd ⟨b,off,none⟩ n k news n1 (fun j v hj=>?_) n3;rw [Addr.add_lit,Iq hw',kD hb];exact n2 j v hj
  ·intro row hrow;simp only [frzRows,cJ] at hrow;obtain ⟨r,hr,rfl⟩:=hrow;simp [hlen r hr]
  ·intro i j row c h1 h2;obtain ⟨r0,c0,g1,g2,rfl⟩:=KC h1 h2;obtain ⟨c1,v,c2,c3⟩:=hcell i j r0 c0 g1 g2;have hi:=(cd.1 g1).1;have hj:j < es:=by rw [<-hlen r0 (cg g1)]; exact (cd.1 g2).1
   have hlt:i * es+j < n * es:=by
    have:(i+1) * es<=n * es:=nu _ (by omega);rw [cI] at this; omega
   obtain ⟨v',e1,e2⟩:=n4 _ hlt;rw [nf] at c2;rw [c2] at e2;cases e2;exact ⟨v,e1,.inr ⟨c0,rfl,c1,c3⟩⟩
 have empty:∀ (ad:Option Addr) (k:Nat),∃ news D,Bx P X m st w es t (.slice ad 0 k) [] news D:=by
  intro ad k;refine ⟨[],1,?_,by simp,by simp,by simp⟩;intro w' _;cases ad with
  | none=>exact Src.ofNil w' hdd k
  | some ad=>exact Src.ofSlice w' hdd ad 0 k [] (by simp) (by simp) (by simp)
 unfold jO at hs;split at hs
 ·simp only [cb] at hs;subst hs;obtain rfl:=hx.of_val;exact empty none 0
 ·rename_i own nl es' cap rows;split at hs
  ·rename_i hc;obtain ⟨he,hall⟩:=hc;subst he;simp only [cb] at hs;subst hs;obtain ⟨a0,k0,rfl,g2,g3,g4,gz,g5,g6⟩:=wD hx;rcases g6 with rfl|⟨b,off,arr,elem,frz,rfl,f2,f3,D,f5⟩
   ·exact empty a0 k0
   ·refine fin rows b off rows.length k0 arr elem frz D f2 g5 rfl ?_;intro i j row c h1 h2;have:=cq.1 (cq.1 hall row (cg h1)) c (cg h2);exact ⟨this,f5 i j row c h1 h2⟩
  ·simp at hs
 ·rename_i n p lo len cap;split at hs
  ·rename_i nl es' cap' rows hn;split at hs
   ·rename_i hc;obtain ⟨he,hall⟩:=hc;subst he;simp only [cb] at hs;subst hs;obtain ⟨nl',es'',cap'',rows',a0,k0,a',k',g1,g2,g3,rfl,g5,g6,g7,g8,g9⟩:=ei hx;have hn':(st.roots n).at p=some (.sl true nl es' cap' rows):=hn;rw [hn'] at g1;simp only [cb,C.sl.injEq,true_and] at g1;obtain ⟨rfl,rfl,rfl,rfl⟩:=g1;have hwl:((rows.drop lo).take len).length=len:=by simp; omega
    by_cases hl0:len=0
    ·subst hl0;have:frzRows ((rows.drop lo).take 0)=[]:=by simp [frzRows]
     rw [this];exact empty a' k'
    ·obtain ⟨u0,d0,hr0⟩:=h.root n;obtain ⟨u1,d1,hr1⟩:=vH p hr0 hn';simp only [cO] at hr1;obtain ⟨a1,k1,D,e1,e2,e3,e4,e5,ez,e6,e7⟩:=eb hr1;rw [g2] at e2;simp only [Value.slice.injEq] at e2;obtain ⟨rfl,_,rfl⟩:=e2;rcases g9 with g9|⟨b,off,rfl,rfl⟩
     ·omega
     ·rcases e7 with e7|⟨b',off',arr,elem,f1,f2,f4,f5⟩
      ·omega
      ·simp only [cb,Addr.mk.injEq] at f1;obtain ⟨rfl,rfl,_⟩:=f1;refine fin _ b (off+lo * es') len k' arr elem (0,0) D f2 (fun row hrow=>e6 row (xu (nI hrow))) hwl ?_;intro i j row c h1 h2;have hpl:=cq.1 (cq.1 hall row (cg h1)) c (cg h2);simp only [plainCell,cv,nC] at hpl;rw [cY] at h1;split at h1
       ·rw [cZ] at h1;obtain ⟨v,f6,f7⟩:=f5 (lo+i) j row c h1 h2;exact ⟨hpl.1,v,by rw [<-f6]; congr 1; rw [cI]; omega,OM hpl.1 (.inl hpl.2) f7⟩
       ·simp at h1
   ·simp at hs
  ·simp at hs
 ·simp at hs
end
section
variable {X:Ctx} {m:Nat->aq->Value} {st:St} {a:Act} {w:World} {P:Program}
def HK {b:Nat}:∀ (vs:List Value) (o:Nat) {w:World} {arr:Array Value} {elem:TypeId} {fz:Nat × Nat},w.heap[b]?=some (.cells arr elem fz) ->
  ∃ arr',(w.setCells b o vs).heap[b]?=some (.cells arr' elem fz)/\arr'.size=arr.size/\∀ x,x < arr.size->arr'[x]?=if o<=x/\x < o+vs.length then vs[x - o]? else arr[x]?:=by
 intro vs
 induction vs with
 | nil=>intro o w arr elem fz h; exact ⟨arr,h,rfl,fun x _=>by rw [if_neg (by simp; try omega)]⟩
 | cons v vs ih=>
  intro o w arr elem fz h;obtain ⟨arr',h1,h2,h3⟩:=ih (o+1) (I0 w b o v arr elem fz h);refine ⟨arr',h1,by rw [h2]; simp,fun x hx=>?_⟩;rw [h3 x (by simpa using hx)];simp only [cC];by_cases c1:o+1<=x/\x < o+1+vs.length
  ·rw [if_pos c1,if_pos (by omega),show x - o=(x - (o+1))+1 by omega,nn]
  ·rw [if_neg c1,xD];by_cases c2:o=x
   ·subst c2;rw [if_pos rfl,if_pos hx,if_pos (by omega)];simp
   ·rw [if_neg c2,if_neg (by omega)]
def FQ {b:Nat}:∀ (vs:List Value) (o:Nat) {w:World} {b':Nat},b'≠b->(w.setCells b o vs).heap[b']?=w.heap[b']?:=by
 intro vs
 induction vs with
 | nil=>intro o w b' _; rfl
 | cons v vs ih=>intro o w b' h; rw [World.setCells,ih _ h,qC _ _ _ _ _ h]
def HE {b:Nat}:∀ (vs:List Value) (o:Nat) {w:World},(w.setCells b o vs).os=w.os/\(w.setCells b o vs).tape=w.tape/\(w.setCells b o vs).output=w.output/\(w.setCells b o vs).heap.size=w.heap.size:=by
 intro vs
 induction vs with
 | nil=>intro o w; exact ⟨rfl,rfl,rfl,rfl⟩
 | cons v vs ih=>
  intro o w;obtain ⟨h1,h2,h3,h4⟩:=ih (o+1) (w:=w.setCell ⟨b,o,none⟩ v);exact ⟨h1,h2,h3,by rw [World.setCells,h4]; simp [World.setCell]⟩
def FI {b:Nat}:∀ (vs:List Value) (o:Nat) {w:World},(w.setCells b o vs).drawn=w.drawn:=by
 intro vs
 induction vs with
 | nil=>intro o w; rfl
 | cons v vs ih=>intro o w; exact ih (o+1) (w:=w.setCell ⟨b,o,none⟩ v)
def bG.mono {w:World} {S S':Nat->Prop} {D:Nat} {c:C} {u:Value} (h:bG w S D c u) (hS:∀ b,b < w.heap.size->S b->S' b):bG w S' D c u:=by
 rcases h with h|⟨c0,h1,h2,h3⟩
 ·exact .inl h
 ·exact .inr ⟨c0,h1,h2,av (fun b hb hs=>⟨hS b hb hs,rfl⟩) D (fun _ _ _ h=>h) (fun h=>by simp at h) (fun h=>by simp at h) h3⟩
def Bx.mono {m':Nat->aq->Value} {st':St} {es:Nat} {t:TypeId} {u:Value} {extra:List (List C)} {news:List Value} {D:Nat} (h:Bx P X m st w es t u extra news D) (hS:∀ b,b < w.heap.size->X.S st.roots m b->X.S st'.roots m' b):Bx P X m' st' w es t u extra news D:=
 ⟨h.src,h.len,h.rows,fun i j row c h1 h2=>let ⟨v,h3,h4⟩:=h.cell i j row c h1 h2; ⟨v,h3,h4.mono hS⟩⟩
def YB {E:Env} (hT:TOk P E) (H:ar X m st a w) {t tx ty:Nat} {e es:Nat} (hdd:P.underlying t=some (.slice e)) {te:TI} (hte:eS P e te) (hsz:te.size=es) (hes:es≠0) {d:Nat} {nl:Option Bool} {cap:Option Nat} {rows extra:List (List C)} (hR:st.roots d=.sl true nl es cap rows)
  {a0 a':Option Addr} {k k':Nat} (hm:m d []=.slice a0 rows.length k) (hk1:k'=0∨a'=a0) (hk2:k'<=k) (hk3:rows.length<=k') (hz:k'=0∨∃ b off,a'=some ⟨b,off,none⟩) {x:Value} {news:List Value} {D:Nat} (hS:Bx P X m st w es tx x extra news D)
  (hb:(rows.length+extra.length) * (te.bytes - 1+1)<=140737488355328) :
  ∃ r w',(Builtin.append_ #[t,tx] ty #[.slice a' rows.length k',x]).run P w=.ok r w'/\∃ m',ar X m' (grown d es (rows++extra) st) a w'/\aB X m' (grown d es (rows++extra) st) w' (.pal d [] 0 (rows++extra).length none) r/\(∃ ad kk,m' d []=.slice ad (rows++extra).length kk/\(extra≠[]->∃ b off arr elem,ad=some ⟨b,off,none⟩/\w'.heap[b]?=some (.cells arr elem)/\∀ (y:Nat) (v:Value),news[y]?=some v->arr[off+rows.length * es+y]?=some v)) ∧
   (∀ h,H0<=h->h≠d->∀ u dd,rel w (X.S st.roots m) L0 (m h) true dd [] (st.roots h) u->rel w' (X.S (grown d es (rows++extra) st).roots m') L0 (m' h) true dd [] ((grown d es (rows++extra) st).roots h) u) ∧
   (∀ n,n≠d->ak (st.roots n) []->m' n []=m n []/\∀ b,blk (m n [])=some b->w'.heap[b]?=w.heap[b]?):=by
 obtain ⟨i,hi,hi1,hi2,z,hzz,hzc⟩:=hte.info;have hzs:z.cells.size=es:=by rw [<-xF,hzc,hte.zlen,hsz]
 have hisz:i.size=es:=by rw [hi1,hsz]
 have hbb:(rows.length+extra.length) * te.bytes<=140737488355328/\rows.length+extra.length<=140737488355328:=K3 hb;obtain ⟨u0,d0,hr0⟩:=H.root d;rw [hR] at hr0;obtain ⟨a1,k1,dd,e1,e2,e3,e4,e5,ez,e6,e7⟩:=eb hr0;rw [hm] at e2;simp only [Value.slice.injEq] at e2;obtain ⟨rfl,_,rfl⟩:=e2;have hkk:k' * es<=k * es:=nu _ hk2;by_cases hext:extra=[]
 ·subst hext;have hrun:=run_append_nothing (P:=P) w t tx ty e i hdd hi a' rows.length k' hk3 x (by
   have:=hS.src w rfl;have hn:news=[]:=cQ (by simpa using hS.len);rw [hn] at this;rw [hisz];simpa using this)
  refine ⟨_,_,hrun,?_⟩;by_cases hk0:k'=0
  ·
   have hrows:rows=[]:=cQ (by omega);subst hrows;obtain ⟨A1,A2⟩:=(H.drop d).adopt (d:=d) (by simp [St.drop,aC]) es a';have est:adopt d es (st.drop d)=grown d es ([]++[]) st:=by
    simp only [adopt,St.drop,grown,cT]
    congr 1
    funext y
    simp only [upd];split<;>rfl
   rw [est] at A1 A2;refine ⟨_,A1,?_,⟨a',0,br _ _ _,fun h=>absurd rfl h⟩,?_,fun n hn _=>⟨gQ _ _ _ (fun h=>hn h.1),fun _ _=>rfl⟩⟩
   ·have:=m6 (X:=X) (m:=kV m d (.slice a' 0 0)) (st:=grown d es ([]++[]) st) (w:=w) (d:=d) (es:=es) (cap:=none) (nl:=none) (rows:=[]) (ad:=a') (k:=0) (by simp [grown,aC]) (by rw [br]; rfl) (by simp) (.inl rfl);subst hk0;simpa using this
   ·intro h hh hhd u dd' hr;have s1:eF X m st w m (st.drop d) w [d]:=by
     refine ⟨by simp [St.drop],?_,fun _ _ _=>rfl,cw _,⟨fun n p=>(n,p),none,?_,?_⟩,?_,?_,rfl,rfl,rfl,cw _⟩
     ·refine AN fun v u n' p hp hf hl=>kH hp rfl ?_ hl;intro nl es cap rows he;have:n'≠d:=by simpa using hf
      exact ⟨cap,rows,by simpa [St.drop,aN this] using he,rfl⟩
     ·intro n' p b ho hb;by_cases e:n'=d
      ·subst e; simp only [St.drop,aC] at ho; exact (aM ho).elim
      ·simp only [St.drop,aN e] at ho; exact .inr ⟨by simp,ho,hb,H.lt ho hb⟩
     ·intro n p n' p' _ _ _ _ e; simpa using e
     ·intro n' e;have e:n'≠d:=by simpa using e
      exact ⟨by simp [St.drop,aN e],fun _ _=>rfl,fun _ _ _ _ _=>rfl⟩
     ·intro hS n' e;obtain rfl:n'=d:=by simpa using e
      exact ⟨undef,1,by simp [St.drop,aC,rel]⟩
    exact (A2.keeps (by simpa using hhd)).2.2 _ _ ((s1.keeps (by simpa using hhd)).2.2 _ _ hr)
  ·obtain ⟨b,off,hab⟩:∃ b off,a'=some ⟨b,off,none⟩:=by rcases hz with hz|hz; exact absurd hz hk0; exact hz
   have ha0:a0=some ⟨b,off,none⟩:=by rcases hk1 with hk1|hk1; exact absurd hk1 hk0; rw [<-hk1,hab]
   rcases e7 with e7|⟨b',off',arr,elem,g1,g2,g4,g5⟩
   ·omega
   ·rw [ha0] at g1;simp only [cb,Addr.mk.injEq] at g1;obtain ⟨rfl,rfl,_⟩:=g1;obtain ⟨R1,R2⟩:=H.regrow (w':=w) (n:=d) (D:=1) (cap':=none) (extra:=[]) hR hm (b':=b) (off':=off) (k':=k') (by simpa using hk3) (by simp only [maxLen] at e4 ⊢; omega) (by simp) (by simp) g2 (by omega)
     (.inr ⟨by omega,by rw [ha0]; rfl,rfl,fun _ _=>rfl⟩) (by
      intro b2 off2 arr2 elem2 q1 q2 _ x _;rw [ha0] at q1;simp only [cb,Addr.mk.injEq,and_true] at q1;obtain ⟨rfl,rfl⟩:=q1;rw [g2] at q2;simp only [cb,Obj.cells.injEq] at q2;rw [q2.1]) (by simp) rfl rfl rfl
    refine ⟨_,R1,?_,⟨some ⟨b,off,none⟩,k',by rw [br]; simp,fun h=>absurd rfl h⟩,fun h hh hhd u dd' hr=>(R2.keeps (by simpa using hhd)).2.2 _ _ hr,fun n hn ho=>let z:=R2.keep n (by simpa using hn); ⟨z.2.1 [] ho,fun b hb=>z.2.2 [] b ho hb (H.lt ho hb)⟩⟩;have:=m6 (X:=X) (m:=kV m d (.slice (some ⟨b,off,none⟩) (rows.length+([]:List (List C)).length) k')) (st:=grown d es (rows++[]) st) (w:=w) (d:=d) (es:=es) (cap:=none) (nl:=none) (rows:=rows++[]) (ad:=some ⟨b,off,none⟩) (k:=k') (by simp [grown,aC]) (by rw [br]; simp) (by simpa using hk3) (.inr ⟨_,_,rfl⟩);rw [hab];simpa using this
 ·have hlpos:extra.length≠0:=by intro h; exact hext (cQ h)
  by_cases hroom:rows.length+extra.length<=k'
  ·
   obtain ⟨b,off,hab⟩:∃ b off,a'=some ⟨b,off,none⟩:=by rcases hz with hz|hz; omega; exact hz
   have ha0:a0=some ⟨b,off,none⟩:=by rcases hk1 with hk1|hk1; omega; rw [<-hk1,hab]
   rcases e7 with e7|⟨b',off',arr,elem,g1,g2,g4,g5⟩
   ·omega
   ·rw [ha0] at g1;simp only [cb,Addr.mk.injEq] at g1;obtain ⟨rfl,rfl,_⟩:=g1;have hfit:off+(rows.length+extra.length) * es<=arr.size:=by
     have:(rows.length+extra.length) * es<=k * es:=nu _ (by omega);omega
    have hnl:news.length=extra.length * es:=hS.len;have hrun:=run_append_room_src (P:=P) w t tx ty e i hdd hi b off rows.length k' x extra.length news (by rw [hisz]; exact hS.src w rfl) hroom (by
     intro j hj;rw [hisz,kD g2];rw [cI] at hfit;have:off+rows.length * es+j < arr.size:=by omega
     simp [this]) (by intro j hj; simp [World.frozen?,g2])
    rw [hisz] at hrun;rw [hab];refine ⟨_,_,hrun,?_⟩;obtain ⟨arr',f1,f2,f3⟩:=HK news (off+rows.length * es) g2;obtain ⟨q1,q2,q3,q4⟩:=HE (b:=b) news (off+rows.length * es) (w:=w);obtain ⟨R1,R2⟩:=H.regrow (hdr:=adk (FI _ _).symm) (w':=w.setCells b (off+rows.length * es) news) (n:=d) (D:=D) (cap':=none) (extra:=extra) hR hm (b':=b) (off':=off) (k':=k') hroom (by simp only [maxLen] at e4 ⊢; omega) (by simp) hS.rows (elem':=elem) f1 (by rw [f2]; omega)
     (.inr ⟨by omega,by rw [ha0]; rfl,q4,fun y hy=>FQ _ _ hy⟩) (by
      intro b2 off2 arr2 elem2 c1 c2 _ y hy;rw [ha0] at c1;simp only [cb,Addr.mk.injEq,and_true] at c1;obtain ⟨rfl,rfl⟩:=c1;rw [g2] at c2;simp only [cb,Obj.cells.injEq] at c2;rw [<-c2.1,f3 (off+y) (by rw [cI] at hfit; omega),if_neg (by omega)]) (by
      intro i j row c c1 c2;obtain ⟨v,c3,c4⟩:=hS.cell i j row c c1 c2;have hlt:=(cd.1 c3).1;refine ⟨v,?_,c4⟩;rw [f3 _ (by rw [cI] at hfit; rw [cI]; omega),if_pos (by rw [cI]; omega),<-c3]
      congr 1
      rw [cI]; omega) q1 q2 q3
    refine ⟨_,R1,?_,⟨some ⟨b,off,none⟩,k',by rw [br]; simp,fun _=>⟨b,off,arr',elem,rfl,f1,?_⟩⟩,fun h hh hhd u dd' hr=>(R2.keeps (by simpa using hhd)).2.2 _ _ hr,fun n hn ho=>let z:=R2.keep n (by simpa using hn); ⟨z.2.1 [] ho,fun b hb=>z.2.2 [] b ho hb (H.lt ho hb)⟩⟩
    ·have:=m6 (X:=X) (m:=kV m d (.slice (some ⟨b,off,none⟩) (rows.length+extra.length) k')) (st:=grown d es (rows++extra) st) (w:=w.setCells b (off+rows.length * es) news) (d:=d) (es:=es) (cap:=none) (nl:=none) (rows:=rows++extra) (ad:=some ⟨b,off,none⟩) (k:=k') (by simp [grown,aC]) (by rw [br]; simp) (by simpa using hroom) (.inr ⟨_,_,rfl⟩);simpa using this
    ·intro y v hy;have hlt:=(cd.1 hy).1;rw [f3 _ (by rw [cI] at hfit; omega),if_pos (by omega),<-hy]
     congr 1; omega
  ·
   have holds:∃ olds:List Value,olds.length=rows.length * es/\(Builtin.firstCells es rows.length (.slice a' rows.length k')).run P w.drew=.ok olds.toArray w.drew/\∀ b off arr elem,a0=some ⟨b,off,none⟩->w.heap[b]?=some (.cells arr elem)->∀ x,x < rows.length * es->olds[x]?=arr[off+x]?:=by
    by_cases hr0:rows=[]
    ·subst hr0;refine ⟨[],by simp,?_,by simp⟩;cases a' with
     | none=>exact run_firstCells_none _ _ _ _ _
     | some ad=>exact run_firstCells_some w.drew es 0 ad _ _ [] (by simp) (by simp)
    ·have hr1:rows.length≠0:=by intro h; exact hr0 (cQ h)
     obtain ⟨b,off,hab⟩:∃ b off,a'=some ⟨b,off,none⟩:=by rcases hz with hz|hz; omega; exact hz
     have ha0:a0=some ⟨b,off,none⟩:=by rcases hk1 with hk1|hk1; omega; rw [<-hk1,hab]
     rcases e7 with e7|⟨b',off',arr,elem,g1,g2,g4,g5⟩
     ·omega
     ·rw [ha0] at g1;simp only [cb,Addr.mk.injEq] at g1;obtain ⟨rfl,rfl,_⟩:=g1;have hfit:off+rows.length * es<=arr.size:=by
       have:rows.length * es<=k * es:=nu _ (by omega);omega
      refine ⟨(arr.toList.drop off).take (rows.length * es),by simp; omega,?_,?_⟩
      ·rw [hab];refine run_firstCells_some w.drew es rows.length ⟨b,off,none⟩ _ _ _ (by simp; omega) ?_;intro j v hj;rw [cY] at hj;split at hj
       ·rw [cZ] at hj;rw [Addr.add_lit,Iq (w:=w) (w':=w.drew) rfl,kD g2];simpa using hj
       ·simp at hj
      ·intro b2 off2 arr2 elem2 c1 c2 y hy;rw [ha0] at c1;simp only [cb,Addr.mk.injEq,and_true] at c1;obtain ⟨rfl,rfl⟩:=c1;rw [g2] at c2;simp only [cb,Obj.cells.injEq] at c2;rw [<-c2.1,cY,if_pos hy,cZ];simp
   obtain ⟨olds,o1,o2,o3⟩:=holds;have hrun:=run_append_grow_src (P:=P) w t tx ty e i z hdd hi hzz a' rows.length k' olds (by rw [hisz]; exact o2) x extra.length news (by rw [hisz]; exact hS.src w rfl) (by omega) (by omega) (growslice_fits (by omega) (by rw [hi2]; exact hbb.1));refine ⟨_,_,hrun,?_⟩;have hge:=grownCap_ge w (rows.length+extra.length) k' e;have hle:=grownCap_le_maxLen w (rows.length+extra.length) k' e (by simp only [maxLen]; omega);have hnl:news.length=extra.length * es:=hS.len;have hasz:((olds++news).toArray++Builtin.zeroCells z.cells (grownCap w (rows.length+extra.length) k' e - (rows.length+extra.length))).size=grownCap w (rows.length+extra.length) k' e * es:=by
    simp only [ac7,nP,hU,o1,hnl,size_zeroCells,hzs,<-cI]
    congr 1; omega
   obtain ⟨R1,R2⟩:=H.regrow (w':=w.drew.alloc (.cells ((olds++news).toArray++Builtin.zeroCells z.cells (grownCap w (rows.length+extra.length) k' e - (rows.length+extra.length))) e)) (n:=d) (D:=D) (cap':=none) (extra:=extra) hR hm (b':=w.heap.size) (off':=0) (k':=grownCap w (rows.length+extra.length) k' e) hge hle (by simp) hS.rows
    (elem':=e) (heap_alloc_new w.drew _) (by rw [hasz]; omega) (.inl ⟨rfl,by show (w.heap.push _).size=_; simp,fun y hy=>heap_alloc_old w.drew _ y hy⟩) (by
     intro b2 off2 arr2 elem2 c1 c2 _ y hy;rw [xh (by simp [o1,hnl]; omega)];simp only [adl,cS];rw [cE (by rw [o1]; exact hy)];exact o3 b2 off2 arr2 elem2 c1 c2 y hy) (by
     intro i j row c c1 c2;obtain ⟨v,c3,c4⟩:=hS.cell i j row c c1 c2;have hlt:=(cd.1 c3).1;refine ⟨v,?_,c4⟩;rw [xh (by simp only [nP,hU,o1,cS]; rw [cI]; omega)];simp only [adl,cS];rw [cP (by rw [o1,cI]; omega),o1,<-c3]
     congr 1
     rw [cI]; omega) rfl rfl rfl
   refine ⟨_,R1,?_,⟨some ⟨w.heap.size,0,none⟩,grownCap w (rows.length+extra.length) k' e,by rw [br]; simp,fun _=>⟨w.heap.size,0,_,e,rfl,heap_alloc_new w.drew _,?_⟩⟩,fun h hh hhd u dd' hr=>(R2.keeps (by simpa using hhd)).2.2 _ _ hr,fun n hn ho=>let z:=R2.keep n (by simpa using hn); ⟨z.2.1 [] ho,fun b hb=>z.2.2 [] b ho hb (H.lt ho hb)⟩⟩
   ·have:=m6 (X:=X) (m:=kV m d (.slice (some ⟨w.heap.size,0,none⟩) (rows.length+extra.length) (grownCap w (rows.length+extra.length) k' e))) (st:=grown d es (rows++extra) st) (w:=w.drew.alloc (.cells ((olds++news).toArray++Builtin.zeroCells z.cells (grownCap w (rows.length+extra.length) k' e - (rows.length+extra.length))) e)) (d:=d) (es:=es) (cap:=none) (nl:=none) (rows:=rows++extra) (ad:=some ⟨w.heap.size,0,none⟩) (k:=grownCap w (rows.length+extra.length) k' e) (by simp [grown,aC]) (by rw [br]; simp) (by simpa using hge) (.inr ⟨_,_,rfl⟩);simpa using this
   ·intro y v hy;have hlt:=(cd.1 hy).1;rw [xh (by simp only [nP,hU,o1]; omega)];simp only [adl,cS];rw [cP (by omega),o1,<-hy]
    congr 1; omega
end
section
variable {X:Ctx} {m:Nat->aq->Value} {st:St} {a:Act} {w:World} {P:Program}
def ar.dropStep (H:ar X m st a w) (d:Nat):eF X m st w m (st.drop d) w [d]:=by
 refine ⟨by simp [St.drop],?_,fun _ _ _=>rfl,cw _,⟨fun n p=>(n,p),none,?_,?_⟩,?_,?_,rfl,rfl,rfl,cw _⟩
 ·refine AN fun v u n' p hp hf hl=>kH hp rfl ?_ hl;intro nl es cap rows he;have:n'≠d:=by simpa using hf
  exact ⟨cap,rows,by simpa [St.drop,aN this] using he,rfl⟩
 ·intro n' p b ho hb;by_cases e:n'=d
  ·subst e; simp only [St.drop,aC] at ho; exact (aM ho).elim
  ·simp only [St.drop,aN e] at ho; exact .inr ⟨by simp,ho,hb,H.lt ho hb⟩
 ·intro n p n' p' _ _ _ _ e; simpa using e
 ·intro n' e;have e:n'≠d:=by simpa using e
  exact ⟨by simp [St.drop,aN e],fun _ _=>rfl,fun _ _ _ _ _=>rfl⟩
 ·intro hS n' e;obtain rfl:n'=d:=by simpa using e
  exact ⟨undef,1,by simp [St.drop,aC,rel]⟩
structure Hj (X:Ctx) (m:Nat->aq->Value) (st:St) (w:World) (m':Nat->aq->Value) (st':St) (w':World):Prop where
 S:∀ b,b < w.heap.size->X.S st.roots m b->X.S st'.roots m' b
 hands:∀ h,H0<=h->∀ u d,rel w (X.S st.roots m) L0 (m h) true d [] (st.roots h) u->rel w' (X.S st'.roots m') L0 (m' h) true d [] (st'.roots h) u
def Hj.refl:Hj X m st w m st w:=⟨fun _ _ h=>h,fun _ _ _ _ h=>h⟩
def Hj.trans {m' m'':Nat->aq->Value} {st' st'':St} {w' w'':World} (h:Hj X m st w m' st' w') (h':Hj X m' st' w' m'' st'' w'') (hs:w.heap.size<=w'.heap.size):Hj X m st w m'' st'' w'':=
 ⟨fun b hb hs'=>h'.S b (adg hb hs) (h.S b hb hs'),fun x hx u d hr=>h'.hands x hx u d (h.hands x hx u d hr)⟩
def eF.onto {m':Nat->aq->Value} {st':St} {w':World} {ch:List Nat} (s:eF X m st w m' st' w' ch) (hch:∀ n∈ch,n < H0):Hj X m st w m' st' w':=
 ⟨fun b hb hs=>(s.S b hb hs).1,fun h hh u d hr=>(s.keeps (fun hc=>by have:=hch h hc; omega)).2.2 u d hr⟩
def rh (h:ar X m st a w) {d:Nat} (hd:d < H0):Hj X m st w m (st.fresh d) w:=by
 unfold St.fresh;split
 ·exact .refl
 ·exact (h.dropStep d).onto (by simpa using hd)
def Hk {d n:Nat} (hn:n≠d):(st.fresh d).roots n=st.roots n:=by
 unfold St.fresh;split
 ·rfl
 ·simp [St.drop,aN hn]
def VC {d n:Nat} {p:aq} {lo len:Nat} {cap:Option Nat} {u:Value} (hn:n≠d) (h:Lv st.roots m (.pal n p lo len cap) u):Lv (st.fresh d).roots m (.pal n p lo len cap) u:=
 kH (n:=n) (p:=p) rfl rfl (fun nl es cap rows he=>⟨cap,rows,by rw [Hk hn]; exact he,rfl⟩) h
structure QL (X:Ctx) (m:Nat->aq->Value) (st:St) (a:Act) (w:World) (d es:Nat) (us:Value) (rows:List (List C)) (m1:Nat->aq->Value) (st1:St):Prop where
 inv:ar X m1 st1 a w
 onto:Hj X m st w m1 st1 w
 same:∀ n,n≠d->∀ q,m1 n q=m n q
 hd:∃ nl cap a0 k a' k',st1.roots d=.sl true nl es cap rows/\m1 d []=.slice a0 rows.length k/\us=.slice a' rows.length k'/\(k'=0∨a'=a0)/\k'<=k/\rows.length<=k'/\(k'=0∨∃ b off,a'=some ⟨b,off,none⟩)
def Tx (H:ar X m st a w) {d es:Nat} (hdH:d < H0) {s:C} {us:Value} (hs:aB X m st w s us) {st1:St} {rows:List (List C)} (hp:wE d es s st=some (st1,rows)):∃ m1,QL X m st a w d es us rows m1 st1:=by
 obtain ⟨h1,hd1⟩:=pI H d;have ad:∀ (ao:Option Addr),∃ m1,QL X m st a w d es (.slice ao 0 0) [] m1 (adopt d es (st.fresh d)):=by
  intro ao;obtain ⟨A1,A2⟩:=h1.adopt hd1 es ao;exact ⟨_,A1,(rh H hdH).trans (A2.onto (by simpa using hdH)) (cw _),fun n hn q=>gQ _ _ _ (fun h=>hn h.1),none,none,ao,0,ao,0,by simp [adopt,aC],br _ _ _,rfl,.inl rfl,cw _,cw _,.inl rfl⟩
 unfold wE at hp;split at hp
 ·simp only [cb,cz] at hp;obtain ⟨rfl,rfl⟩:=hp;obtain rfl:=hs.of_val;exact ad none
 ·split at hp
  ·simp only [cb,cz] at hp;obtain ⟨rfl,rfl⟩:=hp;obtain ⟨a0,k0,rfl,_,_,g4,_⟩:=wD hs;have:=g4 0 rfl;subst this;exact ad a0
  ·simp at hp
 ·rename_i n p lo len cap;split at hp
  ·rename_i nl es' cap' rows0 hn;split at hp
   case isFalse=>simp at hp
   rename_i hes;subst hes;obtain ⟨nl',es'',cap'',rows',a0,k0,a',k',g1,g2,g3,rfl,g5,g6,g7,g8,g9⟩:=ei hs;have hn':(st.roots n).at p=some (.sl true nl es' cap' rows0):=hn;rw [hn'] at g1;simp only [cb,C.sl.injEq,true_and] at g1;obtain ⟨rfl,rfl,rfl,rfl⟩:=g1;split at hp
   ·rename_i hnd;subst hnd;split at hp
    ·rename_i hc;obtain ⟨rfl,rfl,rfl⟩:=hc;simp only [cb,cz] at hp;obtain ⟨rfl,rfl⟩:=hp;simp only [C.at,cb] at hn';refine ⟨m,H,.refl,fun _ _ _=>rfl,nl,cap',a0,k0,a',k',hn',g2,rfl,?_,by omega,g5,?_⟩
     ·rcases g9 with g9|⟨b,off,rfl,rfl⟩
      ·exact .inl g9
      ·exact .inr (by simp)
     ·rcases g9 with g9|⟨b,off,rfl,rfl⟩
      ·exact .inl g9
      ·exact .inr ⟨_,_,rfl⟩
    ·simp at hp
   ·rename_i hnd;split at hp
    ·rename_i hnH;simp only [cb,cz] at hp;obtain ⟨rfl,rfl⟩:=hp;have hat:((st.fresh d).roots n).at p=some (.sl true nl es' cap' rows0):=by rw [Hk hnd]; exact hn'
     obtain ⟨M1,M2,M3⟩:=h1.move (h:=d) hd1 (xE hnd) hat (VC hnd (ei hs));have hl:((rows0.drop lo).take len).length=len:=by simp; omega
     refine ⟨_,M1,(rh H hdH).trans (M3.onto (by simp; omega)) (cw _),fun x hx q=>by simp [il,hx],none,cap,a',k',a',k',by simp [St.move,aC],by rw [hl]; simp [il],by rw [hl],.inr rfl,cw _,by rw [hl]; exact g5,?_⟩;rcases g9 with g9|⟨b,off,rfl,rfl⟩
     ·exact .inl g9
     ·exact .inr ⟨_,_,rfl⟩
    ·simp at hp
  ·simp at hp
 ·simp at hp
def Oy {E:Env} (hT:TOk P E) (H:ar X m st a w) {args:Array Operand} {argTypes:Array TypeId} {s x:Operand} {t tx ty:Nat} (hargs:args=#[s,x]) (htys:argTypes=#[t,tx]) {ti tix:TI} (hti:E.T t=some ti) (htix:E.T tx=some tix) (hkx:tix.kind=ti.kind) {d:Nat} {st':St} (hp:zj E d ti s x st=some st') :
  ∃ r w',(Builtin.append_ argTypes ty (args.map a.eval)).run P w=.ok r w'/\∃ m',ar X m' st' (a.put (some d) r) w'/\((∃ e es,ti.kind=.slice e es/\(jO st es (st.ev x)).isSome=true)->G3 (some d) m st w m' st' w'):=by
 subst hargs htys;unfold zj at hp;split at hp
 case h_2=>simp at hp
 rename_i e es hkind;split at hp
 case h_2=>simp at hp
 rename_i te hte;split at hp
 case isTrue=>simp at hp
 rename_i hc;have hes:es≠0:=by intro h; exact hc (.inl h)
 have hdH:d < H0:=by by_cases h:d < H0; exact h; exact absurd (.inr h) hc
 obtain ⟨dd,hdd,_,hk⟩:=(hT t ti hti).und;rw [hkind] at hk;obtain ⟨rfl,ie,hie,hies⟩:=hk;obtain ⟨ie',hie',hie1,_⟩:=(hT e te hte).info;rw [hie] at hie';cases hie';have hsz:te.size=es:=by omega
 have fin:∀ {m1:Nat->aq->Value} {st1:St} {rows extra:List (List C)} {news:List Value} {D:Nat} {m0:Nat->aq->Value} {st0:St},QL X m0 st0 a w d es (a.eval s) rows m1 st1->Bx P X m1 st1 w es tx (a.eval x) extra news D->(rows.length+extra.length) * (te.bytes - 1+1)<=140737488355328 ->
   ∃ r w',(Builtin.append_ #[t,tx] ty #[a.eval s,a.eval x]).run P w=.ok r w'/\∃ m',ar X m' (grown d es (rows++extra) st1) a w'/\aB X m' (grown d es (rows++extra) st1) w' (.pal d [] 0 (rows++extra).length none) r/\(∃ ad kk,m' d []=.slice ad (rows++extra).length kk/\(extra≠[]->∃ b off arr elem,ad=some ⟨b,off,none⟩/\w'.heap[b]?=some (.cells arr elem)/\∀ (y:Nat) (v:Value),news[y]?=some v->arr[off+rows.length * es+y]?=some v)) ∧
   (∀ h,H0<=h->h≠d->∀ u dd,rel w (X.S st1.roots m1) L0 (m1 h) true dd [] (st1.roots h) u->rel w' (X.S (grown d es (rows++extra) st1).roots m') L0 (m' h) true dd [] ((grown d es (rows++extra) st1).roots h) u) ∧
   (∀ n,n≠d->ak (st1.roots n) []->m' n []=m1 n []/\∀ b,blk (m1 n [])=some b->w'.heap[b]?=w.heap[b]?):=by
  intro m1 st1 rows extra news D m0 st0 hb hs hbd;obtain ⟨nl,cap,a0,k,a',k',b1,b2,b3,b4,b5,b6,b7⟩:=hb.hd;have:=YB (ty:=ty) hT hb.inv hdd (hT e te hte) hsz hes b1 b2 b4 b5 b6 b7 hs hbd;rw [b3];exact this
 split at hp
 ·rename_i extra hsrc;split at hp
  case h_2=>simp at hp
  rename_i st1 rows hbase;split at hp
  case isFalse=>simp at hp
  rename_i hbd;simp only [cb] at hp;subst hp;obtain ⟨news,D,hs⟩:=wq hT H (hT tx tix htix) (by rw [hkx]; exact hkind) hes (bm H x) hsrc;obtain ⟨m1,hb⟩:=Tx H hdH (bm H s) hbase;obtain ⟨r,w',f1,m',f2,f3,_,_,fk⟩:=fin hb (hs.mono hb.onto.S) hbd;refine ⟨r,w',by simpa using f1,m',f2.putTmp d f3,fun _ n hn hnd ho ho'=>?_⟩;have hnd':n≠d:=fun h=>hnd (by rw [h]);have ho1:ak (st1.roots n) []:=by
   have:(grown d es (rows++extra) st1).roots n=st1.roots n:=by simp [grown,aN hnd']
   rw [<-this]; exact ho'
  have em:=hb.same n hnd' [];obtain ⟨g1,g2⟩:=fk n hnd' ho1;exact ⟨by rw [g1,em],fun b hbk=>g2 b (by rw [em]; exact hbk)⟩
 ·split at hp
  case h_2=>simp at hp
  rename_i n p lo cap hxv;split at hp
  case h_2=>simp at hp
  rename_i nl es' cap' srows hn;split at hp
  case h_2=>simp at hp
  rename_i row hrow;split at hp
  case isFalse=>simp at hp
  rename_i hes';subst hes';split at hp
  case h_2=>simp at hp
  rename_i st0 s' hprep;split at hp
  case h_2=>simp at hp
  rename_i st1 rows hbase;split at hp
  case isFalse=>simp at hp
  rename_i hbd;split at hp
  case h_2=>simp at hp
  rename_i st2 hplug;simp only [cb] at hp;subst hp;have hx:=bm H x;rw [hxv] at hx;obtain ⟨b,off,k,arr,elem,g1,g2,g3,g4,g5,g6,g7⟩:=FZ H hn hrow;obtain ⟨nl',es'',cap'',rows',a0,k0,a',k',q1,q2,q3,q4,q5,q6,q7,q8,q9⟩:=ei hx;have hn':(st.roots n).at p=some (.sl true nl es' cap' srows):=hn;rw [hn'] at q1;simp only [cb,C.sl.injEq,true_and] at q1;obtain ⟨rfl,rfl,rfl,rfl⟩:=q1;rw [g1] at q2;simp only [Value.slice.injEq,true_and] at q2;obtain ⟨rfl,rfl⟩:=q2;have hap:a'=some ⟨b,off+lo * es',none⟩:=by
   rcases q9 with q9|⟨b2,off2,c1,c2⟩
   ·omega
   ·simp only [cb,Addr.mk.injEq,and_true] at c1;obtain ⟨rfl,rfl⟩:=c1;exact c2
  obtain ⟨us,u1,u2,u3⟩:∃ us:List Value,us.length=es'/\(∀ (y:Nat) (v:Value),us[y]?=some v->arr[off+lo * es'+y]?=some v)/\∀ (y:Nat) (c:C),(kf n p lo 0 row)[y]?=some c->∃ v,us[y]?=some v/\aB X m st w c v:=by
   refine ⟨(List.range es').map fun y=>(arr[off+lo * es'+y]?).getD undef,by simp,?_,?_⟩
   ·intro y v hy;simp only [cu,cj] at hy;obtain ⟨z,hz,rfl⟩:=hy;have hlt:=(cd.1 hz).1;simp only [adi] at hlt;have:z=y:=by rw [adj hlt] at hz; simpa using hz.symm
    subst this;obtain ⟨v,f1,_⟩:=g7 z row[z] (cn (by omega));simp [f1]
   ·intro y c hy;rw [Jz] at hy;simp only [cj] at hy;obtain ⟨c0,hy,rfl⟩:=hy;have hlt:=(cd.1 hy).1;obtain ⟨v,f1,f2⟩:=g7 y c0 hy;refine ⟨v,by simp [show y < es' by omega,f1],?_⟩;simpa using f2
  obtain ⟨m0,p1,p2,p3,p4,p5,p6⟩:=Af es' (by rw [EF]; exact g4) u1 (cw _) H u3 (bm H s) hprep;obtain ⟨m1,hb⟩:=Tx p1 hdH p2 hbase;have hsrc:Bx P X m1 st1 w es' tx (a.eval x) [row.map fun _=>.dead] us 1:=by
   obtain ⟨ddx,hddx,_,hkx'⟩:=(hT tx tix htix).und;rw [hkx,hkind] at hkx';obtain ⟨rfl,_⟩:=hkx';refine ⟨?_,by simp [u1],by simp [g4],?_⟩
   ·intro w' hw';rw [q4,hap];refine Src.ofSlice w' hddx ⟨b,off+lo * es',none⟩ 1 k' us (by simp [u1]) (fun y v hy=>?_) p6;rw [Addr.add_lit,Iq hw',kD g3];exact u2 y v hy
   ·intro i j r c c1 c2;cases i with
    | zero=>
     simp only [cr,cb] at c1;subst c1;simp only [cu,cj] at c2;obtain ⟨c0,c2,rfl⟩:=c2;have hlt:=(cd.1 c2).1;exact ⟨us[j]'(by omega),by simp,.dead⟩
    | succ i=>simp at c1
  rename_i hnone _ _;obtain ⟨r,w',f1,m',f2,f3,⟨ad,kk,f4,f4'⟩,f5,_⟩:=fin hb hsrc (by simpa using hbd);obtain ⟨b2,off2,arr2,elem2,rfl,f6,f7⟩:=f4' (by simp);obtain ⟨m2,k1,k2,k3,k3',⟨capz,rowsz,k4,k4'⟩,k5⟩:=Hg es' (us:=us) (j:=0) (i:=rows.length) (n:=d) (q:=[]) (b:=b2) (off:=off2) (kk:=kk) (nl:=none) (es:=es') (cap:=none) (rows:=rows++[row.map fun _=>.dead]) u1 (cw _) f2 (by simp [St.node,C.at,grown,aC]) f4 (by
   intro y v hy;obtain ⟨dd,hdd⟩:=p3 y v hy;have hH:H0+y≠d:=by omega
   exact ⟨dd,f5 _ (by omega) hH _ _ (hb.onto.hands _ (by omega) _ _ hdd)⟩) hplug
  rw [HR] at k1
  ·refine ⟨r,w',by simpa using f1,m2,k1.putTmp d ?_,?_⟩
   case refine_2=>
    rintro ⟨e2,es2,hk2,hs2⟩;rw [hkind] at hk2;cases hk2
    simp_all
   have hz:(rows++[row.map fun _=>C.dead]).length=rows.length+1:=by simp
   rw [<-hz];refine ⟨1,kH (n:=d) (p:=[]) rfl k3' ?_ (ei f3)⟩;intro nl2 es2 cap2 rows2 he;simp only [C.at,grown,aC,cb,C.sl.injEq,true_and] at he;obtain ⟨rfl,rfl,rfl,rfl⟩:=he;exact ⟨capz,rowsz,by simpa [St.node] using k4,k4'⟩
  ·intro y v hy;rw [kD f6];have:=f7 y v hy;simpa [nf] using this
end
def qz (c:C):Bool:=dP c || plainCell c
def aK (rows:List (List C)) (lo:Nat) (extra:List (List C)):List (List C):=rows.take lo++extra++rows.drop (lo+extra.length)
def dA (n es:Nat) (nl:Option Bool) (cap:Option Nat) (rows:List (List C)) (st:St):St:=
 {tmps:=st.tmps.map (poi (ua n)),roots:=upd st.roots n (.sl true nl es cap rows) }
section
variable {X:Ctx} {m:Nat->aq->Value} {st:St} {a:Act} {w:World} {P:Program}
theorem XT {c:C} (h:dP c=true):c.frz=.dead:=by rw [zg h]; rfl
structure Nd (X:Ctx) (m:Nat->aq->Value) (st:St) (w:World) (n es:Nat) (nl:Option Bool) (cap:Option Nat) (rows:List (List C)) (b off k:Nat) (arr:Array Value) (elem:TypeId) (D:Nat):Prop where
 head:m n []=.slice (some ⟨b,off,none⟩) rows.length k
 le:rows.length<=k
 max:k<=maxLen
 cap:∀ c,cap=some c->k=c
 heap:w.heap[b]?=some (.cells arr elem)
 fit:off+k * es<=arr.size
 lens:∀ row∈rows,row.length=es
 pos:D≠0
 cell:∀ (i j:Nat) (row:List C) (c:C),(frzRows rows)[i]?=some row->row[j]?=some c->∃ u,arr[off+i * es+j]?=some u/\bG w (X.S st.roots m) D c u
def Ek (H:ar X m st a w) {n es:Nat} {nl:Option Bool} {cap:Option Nat} {rows:List (List C)} (hR:st.roots n=.sl true nl es cap rows) :
  ∃ ad k,m n []=.slice ad rows.length k/\rows.length<=k/\k<=maxLen/\(∀ c,cap=some c->k=c)/\(∀ row∈rows,row.length=es) ∧
   (k≠0->rows.all (·.all qz)=true->∃ b off arr elem D,ad=some ⟨b,off,none⟩/\Nd X m st w n es nl cap rows b off k arr elem D):=by
 obtain ⟨u0,d0,hr0⟩:=H.root n;rw [hR] at hr0;obtain ⟨a1,k1,dd,e1,e2,e3,e4,e5,ez,e6,e7⟩:=eb hr0;refine ⟨a1,k1,e2,e3,e4,e5,e6,?_⟩;intro hk hall;rcases e7 with e7|⟨b,off,arr,elem,g1,g2,g4,g5⟩
 ·exact absurd e7 hk
 ·subst g1;refine ⟨b,off,arr,elem,dd+1,rfl,⟨e2,e3,e4,e5,g2,g4,e6,by omega,?_⟩⟩;intro i j row c h1 h2;obtain ⟨r0,c0,f1,f2,rfl⟩:=KC h1 h2;obtain ⟨u,q1,q2⟩:=g5 i j r0 c0 f1 f2;refine ⟨u,q1,?_⟩;have hp:=cq.1 (cq.1 hall r0 (cg f1)) c0 (cg f2);simp only [qz,nx] at hp;rcases hp with hp|hp
  ·exact .inl ⟨XT hp,by omega⟩
  ·simp only [plainCell,cv,nC] at hp;exact .inr ⟨c0,rfl,hp.1,aT _ _ (by omega) (OM hp.1 (.inl hp.2) q2)⟩
def S6 {rows extra:List (List C)} {lo:Nat} (hfit:lo+extra.length<=rows.length) (i:Nat) :
  (aK rows lo extra)[i]?=if lo<=i/\i < lo+extra.length then extra[i - lo]? else rows[i]?:=by
 unfold aK;have hl:(rows.take lo).length=lo:=by rw [nD]; omega
 by_cases h1:i < lo
 ·rw [if_neg (by omega),nq,cE (by omega),cY,if_pos h1]
 ·by_cases h2:i < lo+extra.length
  ·rw [if_pos ⟨by omega,h2⟩,nq,cP (by omega),hl,cE (by omega)]
  ·rw [if_neg (by omega),cP (by simp [hl]; omega),cZ]
   congr 1
   simp only [hU,hl];omega
def Gi {rows extra:List (List C)} {lo:Nat} (hfit:lo+extra.length<=rows.length):(aK rows lo extra).length=rows.length:=by
 unfold aK;simp only [hU,nD,ac8];omega
def lr (rows:List (List C)):(frzRows rows).length=rows.length:=by simp [frzRows]
def bG.deeper {S:Nat->Prop} {D D':Nat} {c:C} {u:Value} (h:bG w S D c u) (hD:D<=D'):bG w S D' c u:=by
 rcases h with ⟨h1,h2⟩|⟨c0,h1,h2,h3⟩
 ·exact .inl ⟨h1,by omega⟩
 ·exact .inr ⟨c0,h1,h2,aT _ _ hD h3⟩
def La (H:ar X m st a w) {n es:Nat} {nl:Option Bool} {cap:Option Nat} {rows:List (List C)} (hR:st.roots n=.sl true nl es cap rows) {b off k:Nat} {arr:Array Value} {elem:TypeId} {D:Nat} (hO:Nd X m st w n es nl cap rows b off k arr elem D) (hk:k≠0)
  {extra:List (List C)} {news:List Value} {D2:Nat} {lo:Nat} (hfit:lo+extra.length<=rows.length) (hnl:news.length=extra.length * es) (hrow:∀ row∈extra,row.length=es)
  (hcell:∀ (i j:Nat) (row:List C) (c:C),extra[i]?=some row->row[j]?=some c->∃ v,news[i * es+j]?=some v/\bG w (X.S st.roots m) D2 c v) :
  ∃ m',ar X m' (dA n es nl cap (aK (frzRows rows) lo extra) st) a (w.setCells b (off+lo * es) news)/\m' n []=m n [] ∧
   eF X m st w m' (dA n es nl cap (aK (frzRows rows) lo extra) st) (w.setCells b (off+lo * es) news) [n]:=by
 obtain ⟨arr',f1,f2,f3⟩:=HK news (off+lo * es) hO.heap;obtain ⟨q1,q2,q3,q4⟩:=HE (b:=b) news (off+lo * es) (w:=w);have hfr:lo+extra.length<=(frzRows rows).length:=by rw [lr]; exact hfit
 have hlen:=Gi hfr;rw [lr] at hlen;have hes:∀ row∈frzRows rows,row.length=es:=by
  intro row hr;simp only [frzRows,cJ] at hr;obtain ⟨r,hr,rfl⟩:=hr;simp [hO.lens r hr]
 have:=H.rewrite (w':=w.setCells b (off+lo * es) news) (D:=max D D2) hR hO.head hk (rows':=aK (frzRows rows) lo extra) (by rw [hlen]; exact hO.le) (by omega) (by
  intro row hr;simp only [aK,cF] at hr;rcases hr with (hr|hr)|hr
  ·exact hes row (nI hr)
  ·exact hrow row hr
  ·exact hes row (xu hr)) f1 (by rw [f2]; exact hO.fit) q4 (fun x hx=>FQ _ _ hx) (by
  intro i j row c h1 h2;rw [S6 hfr] at h1;split at h1
  ·rename_i hi;obtain ⟨v,c1,c2⟩:=hcell _ j row c h1 h2;have hlt:=(cd.1 c1).1;have hi2:i * es=lo * es+(i - lo) * es:=by rw [<-cI]; congr 1; omega
   refine ⟨v,?_,c2.deeper (n9 _ _)⟩;have hbound:off+i * es+j < arr.size:=by
    have hj:j < es:=by rw [<-hrow row (cg h1)]; exact (cd.1 h2).1
    have h5:(i+1) * es<=k * es:=nu _ (by have:=hO.le; omega);rw [cI] at h5;have:=hO.fit;omega
   rw [f3 _ hbound,if_pos (by omega),<-c1]
   congr 1
   omega
  ·rename_i hi;obtain ⟨u,c1,c2⟩:=hO.cell i j row c h1 h2;refine ⟨u,?_,c2.deeper (nW _ _)⟩;have hbound:=(nc.1 c1).1;have hj:j < es:=by rw [<-hes row (cg h1)]; exact (cd.1 h2).1
   rw [f3 _ hbound,if_neg,c1];rintro ⟨h5,h6⟩;rw [hnl] at h6;apply hi;constructor
   ·apply Nat.le_of_not_lt;intro hlt;have:(i+1) * es<=lo * es:=nu _ (by omega);rw [cI] at this;omega
   ·apply Nat.lt_of_not_le;intro hle;have:(lo+extra.length) * es<=i * es:=nu _ hle;rw [cI] at this;omega) q1 q2 q3 (adk (FI _ _).symm)
 refine ⟨_,this.1,?_,this.2⟩;rw [br,hO.head,hlen]
def Ur (H:ar X m st a w) {n es:Nat} {nl:Option Bool} {cap:Option Nat} {rows:List (List C)} (hR:st.roots n=.sl true nl es cap rows) {b off k:Nat} {arr:Array Value} {elem:TypeId} {D:Nat} (hO:Nd X m st w n es nl cap rows b off k arr elem D) (hk:k≠0)
  {h:Nat} (h1:rows.length<=h) (h2:h<=k) :
  ∃ m',ar X m' (dA n es nl cap (frzRows rows++List.replicate (h - rows.length) (List.replicate es .dead)) st) a w/\m' n []=.slice (some ⟨b,off,none⟩) h k ∧
   eF X m st w m' (dA n es nl cap (frzRows rows++List.replicate (h - rows.length) (List.replicate es .dead)) st) w [n]:=by
 have hlen:(frzRows rows++List.replicate (h - rows.length) (List.replicate es C.dead)).length=h:=by simp [lr]; omega
 have:=H.rewrite (w':=w) (D:=D) hR hO.head hk (rows':=frzRows rows++List.replicate (h - rows.length) (List.replicate es .dead)) (by omega) (by omega) (by
  intro row hr;rcases cF.1 hr with hr2|hr2
  ·simp only [frzRows,cJ] at hr2;obtain ⟨r,hr3,rfl⟩:=hr2;simp [hO.lens r hr3]
  ·rw [xb hr2]; simp) hO.heap hO.fit rfl (fun _ _=>rfl) (by
  intro i j row c f1 f2;by_cases hi:i < (frzRows rows).length
  ·rw [cE hi] at f1;exact hO.cell i j row c f1 f2
  ·have hil:i < h:=by have:=(cd.1 f1).1; omega
   rw [cP (by omega)] at f1;have hrow:=xb (cg f1);subst hrow;have hc:=xb (cg f2);subst hc;have hj:j < es:=by have:=(cd.1 f2).1; simpa using this
   have hbound:off+i * es+j < arr.size:=by
    have h5:(i+1) * es<=k * es:=nu _ (by omega);rw [cI] at h5;have:=hO.fit;omega
   exact ⟨arr[off+i * es+j],by simp [hbound],.inl ⟨rfl,hO.pos⟩⟩) rfl rfl rfl
 refine ⟨_,this.1,?_,this.2⟩;rw [br,hlen]
def Ht (k:Nat):C->C
 | .pal n p lo _ cap=>.pal n p lo k cap
 | .sl own nl es cap rows=>.sl own nl es cap (rows.take k)
 | c=>c
def CW (d:Option Tmp) (es:Nat) (dst src:C) (st:St):Option St:=
 match u4 src,dst with
 | some ls,.pal n [] lo len _=>match st.roots n with
  | .sl true nl es' cap rows=>if es'=es/\es≠0/\rows.all (·.all qz)=true then
    match jO st es (Ht (min ls len) src) with
    | some extra=>some ((dA n es nl cap (aK (frzRows rows) lo extra) st).put d (.val (.int .i64 (min ls len:Nat))))
    | none=>none
   else none
  | _=>none
 | _,_=>none
def ZV {src:C} {u:Value} (hs:aB X m st w src u) {ls k:Nat} (hl:u4 src=some ls) (hk:k<=ls):∃ ad kk,u=.slice ad ls kk/\aB X m st w (Ht k src) (.slice ad k kk):=by
 cases src with
 | val v=>
  obtain rfl:=hs.of_val;have:u=.slice none 0 0/\ls=0:=by
   unfold u4 at hl;split at hl<;>simp_all
  obtain ⟨rfl,rfl⟩:=this;obtain rfl:k=0:=by omega
  exact ⟨none,0,rfl,1,rfl⟩
 | sl own nl es cap rows=>
  simp only [u4,cb] at hl;subst hl;obtain ⟨d,hs⟩:=hs;cases d with
  | zero=>exact hs.elim
  | succ d=>
   obtain ⟨ad,kk,h1,h2,h3,h4,hz,h5,h6,h7⟩:=hs;refine ⟨ad,kk,h1,d+1,ad,kk,by simp [Ht,nD,ac2 hk],by simp; omega,h3,h4,hz,fun row hr=>h5 row (nI hr),by simp,?_⟩;rcases h7 with h7|h7|⟨b,off,arr,elem,frz,g1,g2,g3,g4,g5⟩
   ·exact .inl h7
   ·exact .inr (.inl ⟨h7.1,by rw [h7.2]; simp⟩)
   ·refine .inr (.inr ⟨b,off,arr,elem,frz,g1,g2,g3,g4,fun i j row c' e1 e2=>?_⟩);rw [cY] at e1;split at e1
    ·exact g5 i j row c' e1 e2
    ·simp at e1
 | pal n p lo len cap=>
  simp only [u4,cb] at hl;subst hl;obtain ⟨d,hs⟩:=hs;cases d with
  | zero=>exact hs.elim
  | succ d=>
   obtain ⟨nl,es,cap',rows,a1,k1,a',k',f1,f2,f3,f4,f5,f6,f7,f8,f9⟩:=hs;exact ⟨a',k',f4,1,nl,es,cap',rows,a1,k1,a',k',f1,f2,by omega,rfl,by omega,f6,f7,f8,f9⟩
 | _=>simp [u4] at hl
def wx (H:ar X m st a w) {n es:Nat} {nl:Option Bool} {cap:Option Nat} (hR:st.roots n=.sl true nl es cap []):ar X m (dA n es nl cap [] st) a w:=by
 have:upd st.roots n (.sl true nl es cap [])=st.roots:=by
  funext y
  simp only [upd];by_cases h:y=n<;>simp [h,hR]
 unfold dA;rw [this];refine H.forget _ (by simp) ?_;intro t c hc;simp only [cu,cj] at hc;obtain ⟨c0,h0,rfl⟩:=hc;rcases jH (ua n) c0 with h|⟨h,_⟩
 ·exact .inl h
 ·rw [h]; exact .inr h0
def Yy {E:Env} (hT:TOk P E) (H:ar X m st a w) {t tx ty:Nat} {ti tix:TI} (hti:eS P t ti) (htix:eS P tx tix) {e es:Nat} (hkind:ti.kind=.slice e es) (hkindx:tix.kind=.slice e es) {dst src:C} {ud us:Value} (hd:aB X m st w dst ud) (hs:aB X m st w src us) {d:Option Tmp} {st':St} (hp:CW d es dst src st=some st') :
  ∃ u w',(Builtin.copy_ #[t,tx] ty #[ud,us]).run P w=.ok u w'/\∃ m',ar X m' st' (a.put d u) w':=by
 unfold CW at hp;split at hp
 case h_2=>simp at hp
 rename_i ls n lo len cp hls;split at hp
 case h_2=>simp at hp
 rename_i nl es' cap rows hR;split at hp
 case isFalse=>simp at hp
 rename_i hc;obtain ⟨rfl,hes,hall⟩:=hc;split at hp
 case h_2=>simp at hp
 rename_i extra hx;simp only [cb] at hp;subst hp;obtain ⟨ad,kk,rfl,hcut⟩:=ZV hs hls (Nat.min_le_left ls len);obtain ⟨news,D2,hS⟩:=wq hT H htix hkindx hes hcut hx;have hsrc:=hS.src w rfl;have hxl:extra.length=min ls len:=by
  have:=hsrc.len w;simp only [Builtin.lenOf,Sem.run_pure,Result.ok.injEq,and_true] at this;exact this.symm
 obtain ⟨dd,hd⟩:=hd;cases dd with
 | zero=>exact hd.elim
 | succ dd=>
 obtain ⟨nl2,es2,cap2,rows2,a1,k1,a',k',f1,f2,f3,rfl,f5,f6,f7,f8,f9⟩:=hd;rw [hR] at f1;simp only [C.at,cb,C.sl.injEq,true_and] at f1;obtain ⟨rfl,rfl,rfl,rfl⟩:=f1;obtain ⟨ad0,k0,g1,g2,g3,g4,g5,g6⟩:=Ek H hR;rw [f2] at g1;simp only [Value.slice.injEq,true_and] at g1;obtain ⟨rfl,rfl⟩:=g1;obtain ⟨dsc,hu,_,hkd⟩:=hti.und;rw [hkind] at hkd;obtain ⟨rfl,ie,hie,hiesz⟩:=hkd;have hfc:(Builtin.firstCells es' (min ls len) (.slice ad ls kk)).run P w=.ok news.toArray w:=by
  have:=hsrc.cells;rw [hxl] at this;cases ad<;>exact this
 have hmin:Nat.min ls len=min ls len:=rfl;have hrun:∀ w',(∀ ax,a'=some ax->(storeCells ax news).run P w=.ok () w')->(a'=none->w'=w)->(Builtin.copy_ #[t,tx] ty #[.slice a' len k',.slice ad ls kk]).run P w=.ok (.int .i64 (min ls len:Nat)) w':=by
  intro w' h1 h2;cases ha:a' with
  | none=>
   have:=h2 ha;subst this;simp [Builtin.copy_,run_underlying hu,Builtin.lenOf,sizeOf,typeInfo,hie,hiesz,hfc,hmin,goInt]
  | some ax=>
   have:=h1 ax ha;simp [Builtin.copy_,run_underlying hu,Builtin.lenOf,sizeOf,typeInfo,hie,hiesz,hfc,hmin,this,goInt]
 by_cases hk:k1=0
 ·
  have hrows:rows=[]:=cQ (by omega);subst hrows;have hlen0:len=0:=by simp at f3; omega
  subst hlen0;have hex:extra=[]:=cQ (by omega);subst hex;have hnews:news=[]:=cQ (by simpa using hS.len);subst hnews;refine ⟨_,w,hrun w (fun _ _=>rfl) (fun _=>rfl),m,?_⟩;have h0:=wx H hR;have e:aK (frzRows []) lo []=([]:List (List C)):=by simp [aK,frzRows]
  rw [e];exact h0.put d (k:=1) rfl
 ·obtain ⟨b,off,arr,elem,D,rfl,hO⟩:=g6 hk hall;have hfit:lo+extra.length<=rows.length:=by omega
  obtain ⟨m',M1,M2,M3⟩:=La H hR hO hk (extra:=extra) (news:=news) (D2:=D2) (lo:=lo) hfit hS.len hS.rows hS.cell;refine ⟨_,_,hrun (w.setCells b (off+lo * es') news) ?_ ?_,m',M1.put d (k:=1) rfl⟩
  ·intro ax hax;rcases f9 with f9|⟨b2,off2,q1,q2⟩
   ·
    have hlen0:len=0:=by omega
    have hex:extra=[]:=cQ (by omega);subst hex;have hnews:news=[]:=cQ (by simpa using hS.len);subst hnews;rfl
   ·simp only [cb,Addr.mk.injEq,and_true] at q1;obtain ⟨rfl,rfl⟩:=q1;rw [hax] at q2;simp only [cb] at q2;subst q2;have hbound:∀ j,j < news.length->off+lo * es'+j < arr.size:=by
     intro j hj;rw [hS.len] at hj;have h5:(lo+extra.length) * es'<=k1 * es':=nu _ (by omega);rw [cI] at h5;have:=hO.fit;omega
    have:=run_storeCells_cells (P:=P) b (off+lo * es') news 0 w (fun j hj=>by
     rw [kD hO.heap];have:=hbound j hj;simp [this]) (fun j hj=>by simp [World.frozen?,hO.heap]) hsrc.one
    simpa using this
  ·intro hnone;rcases f9 with f9|⟨b2,off2,q1,q2⟩
   ·have hlen0:len=0:=by omega
    have hex:extra=[]:=cQ (by omega);subst hex;have hnews:news=[]:=cQ (by simpa using hS.len);subst hnews;rfl
   ·rw [hnone] at q2; simp at q2
end
def rD (d es:Nat) (s x:C) (st:St):Option St:=
 match s,jO st es x with
 | .pal n [] lo len cp,some extra=>match st.roots n with
  | .sl true nl es' cap rows=>if es'=es/\es≠0/\lo+len < rows.length/\rows.all (·.all qz)=true/\lo+len+extra.length<=rows.length/\(∀ c∈cp,len+extra.length<=c) then
    some ((dA n es nl cap (aK (frzRows rows) (lo+len) extra) st).put (some d) (.pal n [] lo (len+extra.length) cp))
   else none
  | _=>none
 | _,_=>none
def C4 (cp cap:Option Nat) (lo:Nat):Option Nat:=
 match cp with
 | some c=>some c
 | none=>cap.map (· - lo)
def AR (d es:Nat) (x hi:C) (st:St):Option St:=
 match x,vP hi with
 | .pal n [] lo len cp,some h=>match st.roots n with
  | .sl true nl es' cap rows=>match C4 cp cap lo with
   | some kk=>if es'=es/\es≠0/\rows.all (·.all qz)=true/\rows.length<=lo+h/\h<=kk then
     some ((dA n es nl cap (frzRows rows++List.replicate (lo+h - rows.length) (List.replicate es .dead)) st).put (some d) (.pal n [] lo h cp))
    else none
   | none=>none
  | _=>none
 | _,_=>none
section
variable {X:Ctx} {m:Nat->aq->Value} {st:St} {a:Act} {w:World} {P:Program}
def KP (H:ar X m st a w) {n lo len es:Nat} {cp cap:Option Nat} {nl:Option Bool} {rows:List (List C)} {u:Value} (hR:st.roots n=.sl true nl es cap rows) (hd:aB X m st w (.pal n [] lo len cp) u) :
  ∃ ad k a' k',m n []=.slice ad rows.length k/\rows.length<=k/\lo+len<=rows.length/\u=.slice a' len k'/\len<=k'/\lo+k'<=k/\(∀ c,cp=some c->k'=c)/\(cp=none->lo+k'=k)/\(∀ c,cap=some c->k=c) ∧
   (k'=0∨∃ b off,ad=some ⟨b,off,none⟩/\a'=some ⟨b,off+lo * es,none⟩) ∧
   (k≠0->rows.all (·.all qz)=true->∃ b off arr elem D,ad=some ⟨b,off,none⟩/\Nd X m st w n es nl cap rows b off k arr elem D):=by
 obtain ⟨dd,hd⟩:=hd;cases dd with
 | zero=>exact hd.elim
 | succ dd=>
 obtain ⟨nl2,es2,cap2,rows2,a1,k1,a',k',f1,f2,f3,rfl,f5,f6,f7,f8,f9⟩:=hd;rw [hR] at f1;simp only [C.at,cb,C.sl.injEq,true_and] at f1;obtain ⟨rfl,rfl,rfl,rfl⟩:=f1;obtain ⟨ad0,k0,g1,g2,g3,g4,g5,g6⟩:=Ek H hR;rw [f2] at g1;simp only [Value.slice.injEq,true_and] at g1;obtain ⟨rfl,rfl⟩:=g1;exact ⟨_,_,a',k',f2,g2,f3,rfl,f5,f6,f7,f8,g4,f9,g6⟩
def O9 {E:Env} (hT:TOk P E) (H:ar X m st a w) {t tx ty:Nat} {ti tix:TI} (hti:eS P t ti) (htix:eS P tx tix) {e es:Nat} (hkind:ti.kind=.slice e es) (hkindx:tix.kind=.slice e es) {s x:C} {us ux:Value} (hs:aB X m st w s us) (hx:aB X m st w x ux) {d:Nat} {st':St} (hp:rD d es s x st=some st') :
  ∃ u w',(Builtin.append_ #[t,tx] ty #[us,ux]).run P w=.ok u w'/\∃ m',ar X m' st' (a.put (some d) u) w':=by
 unfold rD at hp;split at hp
 case h_2=>simp at hp
 rename_i n lo len cp extra hsr;split at hp
 case h_2=>simp at hp
 rename_i nl es' cap rows hR;split at hp
 case isFalse=>simp at hp
 rename_i hc;obtain ⟨rfl,hes,_,hall,hroom,hcp⟩:=hc;simp only [cb] at hp;subst hp;obtain ⟨news,D2,hS⟩:=wq hT H htix hkindx hes hx hsr;obtain ⟨ad,k,a',k',g1,g2,g3,rfl,g5,g6,g7,g8,g9,g10,g11⟩:=KP H hR hs;obtain ⟨dsc,hu,_,hkd⟩:=hti.und;rw [hkind] at hkd;obtain ⟨rfl,ie,hie,hiesz⟩:=hkd;have hfit:len+extra.length<=k':=by
  cases cp with
  | none=>have:=g8 rfl; omega
  | some c=>rw [g7 c rfl]; exact hcp c rfl
 have hview:∀ m',m' n []=m n []->aB X m' (dA n es' nl cap (aK (frzRows rows) (lo+len) extra) st) w (.pal n [] lo (len+extra.length) cp) (.slice a' (len+extra.length) k'):=by
  intro m' hm';have hl:=Gi (rows:=frzRows rows) (lo:=lo+len) (extra:=extra) (by rw [lr]; omega);rw [lr] at hl;exact ⟨1,nl,es',cap,_,ad,k,a',k',by simp [dA,aC,C.at]; rfl,by rw [hm',g1,hl],by rw [hl]; omega,rfl,hfit,g6,g7,g8,g10⟩
 by_cases hk:k=0
 ·have hrows:rows=[]:=cQ (by omega);subst hrows;have hex:extra=[]:=cQ (by simp at hroom; omega);subst hex;have hnews:news=[]:=cQ (by simpa using hS.len);subst hnews;have hlen0:len=0:=by simp at hroom; omega
  subst hlen0;have hlo:lo=0:=by simp at hroom; omega
  subst hlo;have hrun:=run_append_nothing (P:=P) w t tx ty e ie hu hie a' 0 k' g5 ux (by have:=hS.src w rfl; rw [hiesz]; simpa using this);refine ⟨_,w,hrun,m,?_⟩;have h0:=wx H hR;have e0:aK (frzRows []) (0+0) []=([]:List (List C)):=by simp [aK,frzRows]
  have:=hview m rfl;rw [e0] at this ⊢;obtain ⟨dd,hr⟩:=this;exact h0.put (some d) hr
 ·obtain ⟨b,off,arr,elem,D,rfl,hO⟩:=g11 hk hall;obtain ⟨m',M1,M2,M3⟩:=La H hR hO hk (extra:=extra) (news:=news) (D2:=D2) (lo:=lo+len) hroom hS.len hS.rows hS.cell;have hv:=hview m' M2;by_cases hk':k'=0
  ·have hex:extra=[]:=cQ (by omega);subst hex;have hnews:news=[]:=cQ (by simpa using hS.len);subst hnews;have hrun:=run_append_nothing (P:=P) w t tx ty e ie hu hie a' len k' g5 ux (by have:=hS.src w rfl; rw [hiesz]; simpa using this);obtain ⟨dd,hr⟩:=hv;refine ⟨_,w,hrun,m',M1.put (some d) (k:=dd) ?_⟩;exact hr
  ·rcases g10 with g10|⟨b2,off2,q1,q2⟩
   ·exact absurd g10 hk'
   ·simp only [cb,Addr.mk.injEq,and_true] at q1;obtain ⟨rfl,rfl⟩:=q1;subst q2;have hbound:∀ j,j < news.length->off+lo * es'+len * es'+j < arr.size:=by
     intro j hj;rw [hS.len] at hj;have h5:(lo+len+extra.length) * es'<=k * es':=nu _ (by omega);rw [cI,cI] at h5;have:=hO.fit;omega
    have hrun:=run_append_room_src (P:=P) w t tx ty e ie hu hie b (off+lo * es') len k' ux extra.length news (by rw [hiesz]; exact hS.src w rfl) hfit (fun j hj=>by
     rw [hiesz,kD hO.heap];have:=hbound j hj;simp [this]) (fun j hj=>by simp [World.frozen?,hO.heap])
    rw [hiesz] at hrun;have eoff:off+lo * es'+len * es'=off+(lo+len) * es':=by rw [cI]; omega
    rw [eoff] at hrun;obtain ⟨dd,hr⟩:=hv;refine ⟨_,_,hrun,m',M1.put (some d) (k:=dd) ?_⟩;cases dd with
    | zero=>exact hr.elim
    | succ dd=>exact hr
def Uz (H:ar X m st a w) {t:Nat} {ti:TI} (hti:eS P t ti) {e es:Nat} (hkind:ti.kind=.slice e es) {x hi:C} {ux uh:Value} (hx:aB X m st w x ux) (hh:aB X m st w hi uh) {d:Nat} {st':St} (hp:AR d es x hi st=some st') :
  ∃ u,(Instr.sliceAt t ux none (some uh) none).run P w=.ok u w/\∃ m',ar X m' st' (a.put (some d) u) w:=by
 unfold AR at hp;split at hp
 case h_2=>simp at hp
 rename_i n lo len cp h hnat;split at hp
 case h_2=>simp at hp
 rename_i nl es' cap rows hR;split at hp
 case h_2=>simp at hp
 rename_i kk hroom;split at hp
 case isFalse=>simp at hp
 rename_i hc;obtain ⟨rfl,hes,hall,hrl,hkk⟩:=hc;simp only [cb] at hp;subst hp;obtain ⟨ad,k,a',k',g1,g2,g3,rfl,g5,g6,g7,g8,g9,g10,g11⟩:=KP H hR hx;obtain ⟨dsc,hu,_,hkd⟩:=hti.und;rw [hkind] at hkd;obtain ⟨rfl,ie,hie,hiesz⟩:=hkd;have hk':k'=kk:=by
  unfold C4 at hroom;cases cp with
  | some c=>simp only [cb] at hroom; rw [g7 c rfl,hroom]
  | none=>
   simp only [cj] at hroom;obtain ⟨c,hc,rfl⟩:=hroom;have:=g9 c hc;have:=g8 rfl;omega
 have hint:∃ ik i,uh=.int ik i/\0<=i/\i.toNat=h:=by
  unfold vP at hnat;split at hnat
  ·rename_i ik i;split at hnat
   ·rename_i h0;simp only [cb] at hnat;exact ⟨ik,i,hh.of_val,h0,hnat⟩
   ·simp at hnat
  ·simp at hnat
 obtain ⟨ik,i,rfl,hi0,hih⟩:=hint;have hrun:(Instr.sliceAt t (.slice a' len k') none (some (.int ik i)) none).run P w=.ok (.slice a' h k') w:=by
  have hle:i<=(k':Int):=by omega
  simp only [Instr.sliceAt,Instr.slice,Sem.run_bind,run_underlying hu,Result.andThen_ok,Instr.sliceBounds,Sem.run_pure,Instr.sliceBound,asIntOf];simp [hi0,hle,hih,sizeOf,typeInfo,hie];intro hz;rcases g10 with g10|⟨b,off,_,rfl⟩
  ·exact absurd g10 hz
  ·simp [Addr.add_lit]
 refine ⟨_,hrun,?_⟩;have hview:∀ m',m' n []=.slice ad (frzRows rows++List.replicate (lo+h - rows.length) (List.replicate es' C.dead)).length k->aB X m' (dA n es' nl cap (frzRows rows++List.replicate (lo+h - rows.length) (List.replicate es' .dead)) st) w (.pal n [] lo h cp) (.slice a' h k'):=by
  intro m' hm';exact ⟨1,nl,es',cap,_,ad,k,a',k',by simp [dA,aC,C.at],hm',by simp [lr]; omega,rfl,by omega,g6,g7,g8,g10⟩
 by_cases hk:k=0
 ·have hrows:rows=[]:=cQ (by omega);subst hrows;have h0:lo+h=0:=by omega
  have e0:frzRows []++List.replicate (lo+h - ([]:List (List C)).length) (List.replicate es' C.dead)=[]:=by simp [frzRows,h0]
  rw [e0] at hview ⊢;obtain ⟨dd,hr⟩:=hview m (by rw [g1]);exact ⟨m,(wx H hR).put (some d) hr⟩
 ·obtain ⟨b,off,arr,elem,D,rfl,hO⟩:=g11 hk hall;obtain ⟨m',M1,M2,M3⟩:=Ur H hR hO hk (h:=lo+h) hrl (by omega);obtain ⟨dd,hr⟩:=hview m' (by rw [M2]; congr 1; simp [lr]; omega);exact ⟨m',M1.put (some d) hr⟩
def tN (st:St):C->Option Nat
 | .val (.slice none 0 0)=>some 0
 | .sl _ _ _ cap _=>cap
 | .pal n p lo _ cp=>match st.node n p with
  | some (.sl true _ _ cap _)=>C4 cp cap lo
  | _=>none
 | _=>none
def vZ (z:Array Value) (n x:Nat) (h:x < n * z.size):(Builtin.zeroCells z n)[x]?=z[x % z.size]?:=by
 have hz:0 < z.size:=by
  rcases Nat.eq_zero_or_pos z.size with h0|h0
  ·rw [h0] at h; omega
  ·exact h0
 have hm:=Nat.mod_lt x hz;simp [Builtin.zeroCells,h,hm,getElem!_pos]
inductive Ext where
 | zeros (k:Nat)
 | list (l:List (List C))
def Ext.all (te:TI):Ext->List (List C)
 | .zeros k=>List.replicate k (te.zero.map .val)
 | .list l=>l
def Ez (st:St) (es:Nat) (tix:TI) (x:C):Option Ext:=
 match tix.kind with
 | .int _=>(vP x).map .zeros
 | .slice _ es'=>if es'=es then (jO st es x).map .list else none
 | _=>none
def gw (d es:Nat) (te tix:TI) (s x:C) (st:St):Option St:=
 match tN st s,jO st es s,Ez st es tix x with
 | some kk,some olds,some ex=>if kk < olds.length+(ex.all te).length/\es≠0/\d < H0/\(olds.length+(ex.all te).length) * (te.bytes - 1+1)<=140737488355328 then
   some { tmps:=(st.fresh d).tmps.set d (.pal d [] 0 (olds++ex.all te).length none),roots:=upd (st.fresh d).roots d (.sl true none es none (olds++ex.all te)) }
  else none
 | _,_,_=>none
def Ou (H:ar X m st a w) {s:C} {us:Value} (hs:aB X m st w s us) {kk:Nat} (hroom:tN st s=some kk):∃ ad len,us=.slice ad len kk/\len<=kk:=by
 unfold tN at hroom;split at hroom
 ·simp only [cb] at hroom;subst hroom;obtain rfl:=hs.of_val;exact ⟨none,0,rfl,cw _⟩
 ·rename_i own nl es' cap rows;obtain ⟨d,hs⟩:=hs;cases d with
  | zero=>exact hs.elim
  | succ d=>
   obtain ⟨ad,k,h1,h2,h3,h4,_⟩:=hs;have:=h4 kk hroom;subst this;exact ⟨ad,_,h1,h2⟩
 ·rename_i n p lo len cp;split at hroom
  ·rename_i nl es' cap rows hn;obtain ⟨nl2,es2,cap2,rows2,a1,k1,a',k',f1,f2,f3,rfl,f5,f6,f7,f8,f9⟩:=ei hs;have hn':(st.roots n).at p=some (.sl true nl es' cap rows):=hn;rw [hn'] at f1;simp only [cb,C.sl.injEq,true_and] at f1;obtain ⟨rfl,rfl,rfl,rfl⟩:=f1;have hk:k'=kk:=by
    unfold C4 at hroom;cases cp with
    | some c=>simp only [cb] at hroom; rw [f7 c rfl,hroom]
    | none=>
     simp only [cj] at hroom;obtain ⟨c,hc,rfl⟩:=hroom;have h8:=f8 rfl;obtain ⟨u0,d0,hr0⟩:=H.root n;obtain ⟨u1,d1,hr1⟩:=vH p hr0 hn';simp only [cO] at hr1;obtain ⟨a2,k2,D2,e1,e2,e3,e4,e5,_⟩:=eb hr1;rw [f2] at e2;simp only [Value.slice.injEq,true_and] at e2;obtain ⟨rfl,rfl⟩:=e2;have:=e5 c hc;omega
   subst hk;exact ⟨a',len,rfl,f5⟩
  ·simp at hroom
 ·simp at hroom
def Ve {E:Env} (hT:TOk P E) (H:ar X m st a w) {t:Nat} {ti:TI} (hti:eS P t ti) {e es:Nat} (hkind:ti.kind=.slice e es) (hes:es≠0) {s:C} {us:Value} (hs:aB X m st w s us) {kk:Nat} {olds:List (List C)} (hroom:tN st s=some kk) (hold:jO st es s=some olds) :
  ∃ ad news D,us=.slice ad olds.length kk/\olds.length<=kk/\Bx P X m st w es t us olds news D:=by
 obtain ⟨news,D,hS⟩:=wq hT H hti hkind hes hs hold;have hlen:=(hS.src w rfl).len w;obtain ⟨ad,len,rfl,hle⟩:=Ou H hs hroom;simp only [Builtin.lenOf,Sem.run_pure,Result.ok.injEq,and_true] at hlen;subst hlen;exact ⟨ad,news,D,rfl,hle,hS⟩
def Ds {E:Env} (hT:TOk P E) (H:ar X m st a w) {t tx ty:Nat} {ti tix te:TI} (hti:eS P t ti) (htix:eS P tx tix) {e es:Nat} (hkind:ti.kind=.slice e es) (hte:eS P e te) {s x:C} {us ux:Value} (hs:aB X m st w s us) (hx:aB X m st w x ux) {d:Nat} {st':St} (hp:gw d es te tix s x st=some st') :
  ∃ u w',(Builtin.append_ #[t,tx] ty #[us,ux]).run P w=.ok u w'/\∃ m',ar X m' st' (a.put (some d) u) w':=by
 unfold gw at hp;split at hp
 case h_2=>simp at hp
 rename_i kk olds ex hroom hold hex;split at hp
 case isFalse=>simp at hp
 rename_i hc;obtain ⟨hlt,hes,hdH,hb⟩:=hc;simp only [cb] at hp;subst hp;obtain ⟨ad,oldV,D1,rfl,hle,hO⟩:=Ve hT H hti hkind hes hs hroom hold;obtain ⟨dsc,hu,_,hkd⟩:=hti.und;rw [hkind] at hkd;obtain ⟨rfl,ie0,hie0,hiesz0⟩:=hkd;obtain ⟨i,hi,hi1,hi2,z,hzz,hzc⟩:=hte.info;rw [hi] at hie0;cases hie0;have hzs:z.cells.size=es:=by rw [<-xF,hzc,hte.zlen,<-hi1,hiesz0]
 have hbb:(olds.length+(ex.all te).length) * te.bytes<=140737488355328/\olds.length+(ex.all te).length<=140737488355328:=K3 hb;obtain ⟨h1,hd⟩:=pI H d;have hon:=rh H hdH;have hge:=grownCap_ge w (olds.length+(ex.all te).length) kk e;have hlemax:=grownCap_le_maxLen w (olds.length+(ex.all te).length) kk e (by simp only [maxLen]; omega);have run:∃ (news:List Value) (D2:Nat),news.length=(ex.all te).length * es/\(∀ row∈ex.all te,row.length=es) ∧
   (∀ (i j:Nat) (row:List C) (c:C),(ex.all te)[i]?=some row->row[j]?=some c->∃ v,news[i * es+j]?=some v/\bG w (X.S st.roots m) D2 c v) ∧
   ∃ arr:Array Value,(Builtin.append_ #[t,tx] ty #[.slice ad olds.length kk,ux]).run P w=.ok (.slice (some ⟨w.heap.size,0,none⟩) (olds.length+(ex.all te).length) (grownCap w (olds.length+(ex.all te).length) kk e)) (w.drew.alloc (.cells arr e)) ∧
    arr.size=grownCap w (olds.length+(ex.all te).length) kk e * es/\∀ x,x < (oldV++news).length->arr[x]?=(oldV++news)[x]?:=by
  have holdrun:=(hO.src w rfl).cellsD;unfold Ez at hex;split at hex
  ·
   rename_i ik hk;simp only [cj] at hex;obtain ⟨k,hnat,rfl⟩:=hex;have hint:∃ ik' v,ux=.int ik' v/\0<=v/\v.toNat=k:=by
    unfold vP at hnat;split at hnat
    ·rename_i ik' v;split at hnat
     ·rename_i h0;simp only [cb] at hnat;exact ⟨ik',v,hx.of_val,h0,hnat⟩
     ·simp at hnat
    ·simp at hnat
   obtain ⟨ik',v,rfl,hv0,hvk⟩:=hint;have hv:v=(k:Int):=by omega
   subst hv;obtain ⟨dx,hux,_,hkx⟩:=htix.und;rw [hk] at hkx;have hkx:dx=.int ik:=hkx;subst hkx;simp only [Ext.all,xo] at hlt hb hbb hge hlemax ⊢;have hkp:0 < k:=by omega
   have hrun:=Lib.run_append_grow_zeros (P:=P) w t tx ty e ie0 z ik' ik hu hux hi hzz ad olds.length kk oldV (by rw [hiesz0]; exact holdrun) k hkp (by rw [hiesz0]; omega) hlt (by omega) (by
    have:=hbb.1;rw [hi2];rw [cI] at this;omega) (growslice_fits hlt (by rw [hi2]; exact hbb.1))
   refine ⟨(Builtin.zeroCells z.cells k).toList,1,by simp [size_zeroCells,hzs],?_,?_,_,hrun,?_,?_⟩
   ·intro row hr;rw [xb hr];simp [hte.zlen,<-hi1,hiesz0]
   ·intro i' j row c h1 h2;have hr:=xb (cg h1);have hik:i' < k:=by have:=(cd.1 h1).1; simpa using this
    subst hr;simp only [cu,cj] at h2;obtain ⟨vz,h2,rfl⟩:=h2;have hj:j < es:=by have:=(cd.1 h2).1; rw [hte.zlen,<-hi1,hiesz0] at this; exact this
    have hlt2:i' * es+j < k * z.cells.size:=by
     rw [hzs];have:(i'+1) * es<=k * es:=nu _ (by omega);rw [cI] at this; omega
    refine ⟨vz,?_,bG.val (hte.zone vz (cg h2))⟩;rw [xM,vZ _ _ _ hlt2,hzs,n8,adm,adn hj,<-xM,hzc];exact h2
   ·simp only [ac7,nP,hO.len,size_zeroCells,hzs,<-cI]
    congr 1; omega
   ·intro x hx;simp only [hU,xF,size_zeroCells] at hx;rw [xh (by simp [size_zeroCells]; omega)];by_cases hxo:x < oldV.length
    ·rw [xh (by simpa using hxo),cE hxo]; simp
    ·rw [ac5 (by simpa using hxo),cP (by omega)]; simp
  ·
   rename_i e' es' hk;split at hex
   case isFalse=>simp at hex
   rename_i hee;subst hee;simp only [cj] at hex;obtain ⟨extra,hsr,rfl⟩:=hex;simp only [Ext.all] at hlt hb hbb hge hlemax ⊢;obtain ⟨news,D2,hS⟩:=wq hT H htix hk hes hx hsr;have hrun:=run_append_grow_src (P:=P) w t tx ty e ie0 z hu hi hzz ad olds.length kk oldV (by rw [hiesz0]; exact holdrun) ux extra.length news (by rw [hiesz0]; exact hS.src w rfl) hlt (by omega) (growslice_fits hlt (by rw [hi2]; exact hbb.1));refine ⟨news,D2,hS.len,hS.rows,hS.cell,_,hrun,?_,?_⟩
   ·simp only [ac7,nP,hU,hO.len,hS.len,size_zeroCells,hzs,<-cI]
    congr 1; omega
   ·intro x hx;rw [xh (by simpa using hx)];simp
  ·simp at hex
 obtain ⟨news,D2,n1,n2,n3,arr,hrun,hasz,harr⟩:=run;refine ⟨_,_,hrun,?_⟩;have hS1:∀ b,b < w.heap.size->X.S st.roots m b->X.S (st.fresh d).roots m b:=hon.S;have hlenall:(olds++ex.all te).length=olds.length+(ex.all te).length:=by simp
 obtain ⟨R1,R2⟩:=h1.newRoot (d:=d) hd (w':=w.drew.alloc (.cells arr e)) (D:=max D1 D2) (arr:=arr) (elem:=e) (rows:=olds++ex.all te) (es:=es) (k:=grownCap w (olds.length+(ex.all te).length) kk e) (cap:=none) rfl rfl rfl rfl (by rw [hlenall]; exact hge) hlemax (by simp) (by
   intro row hr;rcases cF.1 hr with h|h
   ·exact hO.rows row h
   ·exact n2 row h) (by rw [hasz]; omega) (by
   intro i' j row c f1 f2;by_cases hi':i' < olds.length
   ·rw [cE hi'] at f1;obtain ⟨v,c1,c2⟩:=hO.cell i' j row c f1 f2;have hlt2:=(cd.1 c1).1;refine ⟨v,?_,(c2.mono hS1).deeper (nW _ _)⟩;rw [harr _ (by simp; omega),cE hlt2];exact c1
   ·rw [cP (by omega)] at f1;obtain ⟨v,c1,c2⟩:=n3 _ j row c f1 f2;have hlt2:=(cd.1 c1).1;have e1:i' * es+j=oldV.length+((i' - olds.length) * es+j):=by
     rw [hO.len,<-nf,<-cI]; congr 2; omega
    refine ⟨v,?_,(c2.mono hS1).deeper (n9 _ _)⟩;rw [harr _ (by rw [e1]; simp; omega),e1,cP (by omega)];simpa using c1)
 have hv:=m6 (X:=X) (m:=kV m d (.slice (some ⟨w.heap.size,0,none⟩) (olds++ex.all te).length (grownCap w (olds.length+(ex.all te).length) kk e))) (st:={ (st.fresh d) with roots:=upd (st.fresh d).roots d (.sl true none es none (olds++ex.all te)) }) (w:=w.drew.alloc (.cells arr e)) (d:=d) (es:=es) (cap:=none) (nl:=none) (rows:=olds++ex.all te) (ad:=some ⟨w.heap.size,0,none⟩) (k:=grownCap w (olds.length+(ex.all te).length) kk e) (by simp [aC]) (by rw [br]) (by rw [hlenall]; exact hge) (.inr ⟨_,_,rfl⟩);rw [<-hlenall];rw [hlenall] at R1 hv ⊢;obtain ⟨dd,hr⟩:=hv;exact ⟨_,R1.put (some d) hr⟩
def BG (d es:Nat) (x lo hi:C) (st:St):Option St:=
 match x with
 | .pal n [] lo0 len none=>match st.roots n with
  | .sl true nl es' cap rows=>if es'=es then match sn (rows.length - lo0) none (some lo) (some hi) none with
    | some (l,h,_)=>some (st.put (some d) (.pal n [] (lo0+l) (h - l) none))
    | none=>none
   else none
  | _=>none
 | _=>none
def R9 (H:ar X m st a w) {t:Nat} {ti:TI} (hti:eS P t ti) {e es:Nat} (hkind:ti.kind=.slice e es) {x lo hi:C} {ux ul uh:Value} (hx:aB X m st w x ux) (hl:aB X m st w lo ul) (hh:aB X m st w hi uh) {d:Nat} {st':St} (hp:BG d es x lo hi st=some st') :
  ∃ u,(Instr.sliceAt t ux (some ul) (some uh) none).run P w=.ok u w/\∃ m',ar X m' st' (a.put (some d) u) w:=by
 obtain ⟨dsc,hd,hagg,hk⟩:=hti.und;rw [hkind] at hk;obtain ⟨rfl,ie,hi1,hi2⟩:=hk;have hsz:(sizeOf e).run P w=.ok es w:=by simp [sizeOf,typeInfo,hi1,hi2]
 unfold BG at hp;split at hp
 case h_2=>simp at hp
 rename_i n lo0 len;split at hp
 case h_2=>simp at hp
 rename_i nl es' cap rows hR;split at hp
 case isFalse=>simp at hp
 rename_i hes;subst hes;split at hp
 case h_2=>simp at hp
 rename_i l h c' hb;simp only [cb] at hp;subst hp;obtain ⟨nl',es'',cap'',rows',a0,k0,a',k',g1,g2,g3,rfl,g5,g6,g7,g8,g9⟩:=ei hx;have hn':(st.roots n).at []=some (.sl true nl es' cap rows):=by rw [hR]; rfl
 rw [hn'] at g1;simp only [cb,C.sl.injEq,true_and] at g1;obtain ⟨rfl,rfl,rfl,rfl⟩:=g1;have hk':lo0+k'=k0:=g8 rfl;obtain ⟨ad0,k00,q1,q2,q3,q4,q5,q6⟩:=Ek H hR;rw [g2] at q1;simp only [Value.slice.injEq,true_and] at q1;obtain ⟨rfl,rfl⟩:=q1;obtain ⟨mm,e1,e2,e3,e4,e5,e6,e7⟩:=zv (P:=P) (X:=X) (m:=m) (st:=st) (w:=w) (isS:=true) hb (cap:=k') (by simp) (by omega) (ul:=some ul) (uh:=some uh) (um:=none)
  (fun c hc=>by simp only [cb] at hc; subst hc; exact ⟨ul,rfl,hl⟩) (by simp) (fun c hc=>by simp only [cb] at hc; subst hc; exact ⟨uh,rfl,hh⟩) (by simp) (by simp) (by simp)
 have hmm:mm=k':=by
  have hc':c'=none:=by
   have hb2:=hb;unfold sn at hb2;simp only [Option.map_none] at hb2;split at hb2
   ·split at hb2
    ·simp only [cb,cz] at hb2; exact hb2.2.2.symm
    ·simp at hb2
   ·simp at hb2
  exact e7 hc'
 subst hmm;have e1':(Instr.sliceBounds true len mm (some ul) (some uh) none).run P w=.ok (l,h,mm) w:=by
  have:Instr.sliceBounds true len mm (some ul) (some uh) none=Instr.sliceBounds true (rows.length - lo0) mm (some ul) (some uh) none:=rfl;rw [this]; exact e1
 have hrun:(Instr.sliceAt t (.slice a' len mm) (some ul) (some uh) none).run P w=.ok (.slice (if mm=l then a' else a'.map (·.add (l * es'))) (h - l) (mm - l)) w:=by
  simp [Instr.sliceAt,run_underlying hd,Instr.slice,e1',hsz]
 refine ⟨_,hrun,m,H.put (some d) (k:=1) ?_⟩;refine ⟨nl,es',cap,rows,a0,k0,(if mm=l then a' else a'.map (·.add (l * es'))),mm - l,hn',g2,by omega,rfl,by omega,by omega,by simp,fun _=>by omega,?_⟩;by_cases hz:mm=l
 ·left; omega
 ·rcases g9 with g9|⟨b,off,rfl,rfl⟩
  ·left; omega
  ·right;refine ⟨b,off,rfl,?_⟩;simp [hz,Addr.add_lit,cI,nf]
def yc (es:Nat) (te:TI) (x:C) (st:St):Option St:=
 match x with
 | .pal n [] lo len _=>match st.roots n with
  | .sl true nl es' cap rows=>if es'=es/\es≠0/\rows.all (·.all qz)=true then some (dA n es nl cap (aK (frzRows rows) lo (List.replicate len (te.zero.map .val))) st) else none
  | _=>none
 | _=>none
def Xq {E:Env} (H:ar X m st a w) {t ty:Nat} {ti te:TI} (hti:eS P t ti) {e es:Nat} (hkind:ti.kind=.slice e es) (hte:eS P e te) {x:C} {ux:Value} (hx:aB X m st w x ux) {st':St} (hp:yc es te x st=some st') :
  ∃ u w',(Builtin.clear_ #[t] ty #[ux]).run P w=.ok u w'/\∃ m',ar X m' st' (a.put none u) w':=by
 unfold yc at hp;split at hp
 case h_2=>simp at hp
 rename_i n lo len cp;split at hp
 case h_2=>simp at hp
 rename_i nl es' cap rows hR;split at hp
 case isFalse=>simp at hp
 rename_i hc;obtain ⟨rfl,hes,hall⟩:=hc;simp only [cb] at hp;subst hp;obtain ⟨nl2,es2,cap2,rows2,a1,k1,a',k',f1,f2,f3,rfl,f5,f6,f7,f8,f9⟩:=ei hx;rw [hR] at f1;simp only [C.at,cb,C.sl.injEq,true_and] at f1;obtain ⟨rfl,rfl,rfl,rfl⟩:=f1;obtain ⟨ad0,k0,g1,g2,g3,g4,g5,g6⟩:=Ek H hR;rw [f2] at g1;simp only [Value.slice.injEq,true_and] at g1;obtain ⟨rfl,rfl⟩:=g1;obtain ⟨dsc,hu,_,hkd⟩:=hti.und;rw [hkind] at hkd;obtain ⟨rfl,ie,hie,hiesz⟩:=hkd;obtain ⟨i,hi,hi1,hi2,z,hzz,hzc⟩:=hte.info;rw [hi] at hie;obtain rfl:=ng hie;have hzs:z.cells.size=es':=by rw [<-xF,hzc,hte.zlen,<-hi1,hiesz]
 have hzv:∀ w,(zeroValue e).run P w=.ok z w:=fun w=>by simp [zeroValue,typeInfo,hi,hzz]
 have zcell:∀ i' j,i' < len->j < es'->(Builtin.zeroCells z.cells len)[i' * es'+j]?=te.zero[j]?:=by
  intro i' j h1 h2;have hlt2:i' * es'+j < len * z.cells.size:=by
   rw [hzs];have:(i'+1) * es'<=len * es':=nu _ (by omega);rw [cI] at this; omega
  rw [vZ _ _ _ hlt2,hzs,n8,adm,adn h2,<-xM,hzc]
 have zsize:(Builtin.zeroCells z.cells len).toList.length=len * es':=by simp [size_zeroCells,hzs]
 have zone:∀ v∈(Builtin.zeroCells z.cells len).toList,v.oneCell'=true:=by
  intro v hv;obtain ⟨x,hx⟩:=cH hv;have hlt:=(cd.1 hx).1;rw [zsize] at hlt;rw [xM,vZ _ _ _ (by rw [hzs]; exact hlt),<-xM,hzc] at hx;exact hte.zone v (cg hx)
 have none_:len=0->(Builtin.clear_ #[t] ty #[.slice a' len k']).run P w=.ok (.tuple #[]) w:=by
  rintro rfl;cases a'<;>simp [Builtin.clear_,run_underlying hu]
 by_cases hk:k1=0
 ·have hrows:rows=[]:=cQ (by omega);subst hrows;have hlen0:len=0:=by simp at f3; omega
  refine ⟨_,w,none_ hlen0,m,?_⟩;have h0:=wx H hR;have e0:aK (frzRows []) lo (List.replicate len (te.zero.map .val))=([]:List (List C)):=by simp [aK,frzRows,hlen0]
  rw [e0];exact h0
 ·obtain ⟨b,off,arr,elem,D,rfl,hO⟩:=g6 hk hall;obtain ⟨m',M1,M2,M3⟩:=La H hR hO hk (extra:=List.replicate len (te.zero.map .val)) (news:=(Builtin.zeroCells z.cells len).toList) (D2:=1) (lo:=lo) (by simpa using f3) (by rw [zsize]; simp) (by
   intro row hr;rw [xb hr];simp [hte.zlen,<-hi1,hiesz]) (by
   intro i' j row c h1 h2;have hr:=xb (cg h1);have hik:i' < len:=by have:=(cd.1 h1).1; simpa using this
   subst hr;simp only [cu,cj] at h2;obtain ⟨vz,h2,rfl⟩:=h2;have hj:j < es':=by have:=(cd.1 h2).1; rw [hte.zlen,<-hi1,hiesz] at this; exact this
   refine ⟨vz,?_,bG.val (hte.zone vz (cg h2))⟩;rw [xM,zcell i' j hik hj];exact h2)
  by_cases hl0:len=0
  ·refine ⟨_,w,none_ hl0,m',?_⟩;have e0:(Builtin.zeroCells z.cells len).toList=[]:=cQ (by rw [zsize,hl0]; omega);rw [e0] at M1;exact M1
  ·rcases f9 with f9|⟨b2,off2,q1,q2⟩
   ·omega
   ·simp only [cb,Addr.mk.injEq,and_true] at q1;obtain ⟨rfl,rfl⟩:=q1;subst q2;have hbound:∀ j,j < (Builtin.zeroCells z.cells len).toList.length->off+lo * es'+j < arr.size:=by
     intro j hj;rw [zsize] at hj;have h5:(lo+len) * es'<=k1 * es':=nu _ (by omega);rw [cI] at h5;have:=hO.fit;omega
    have hst:=run_storeCells_cells (P:=P) b (off+lo * es') (Builtin.zeroCells z.cells len).toList 0 w (fun j hj=>by
     rw [kD hO.heap];have:=hbound j hj;simp [this]) (fun j hj=>by simp [World.frozen?,hO.heap]) zone
    refine ⟨.tuple #[],_,?_,m',M1⟩;obtain ⟨len',rfl⟩:∃ q,len=q+1:=⟨len - 1,by omega⟩;simp only [xa] at hst;simp [Builtin.clear_,run_underlying hu,hzv,hst]
end
def iR (r:C) (m:aq->Value) (b:Nat):Prop:=∃ q,ak r q/\blk (m q)=some b
def R0 (own:List Bool) (cs:List C):Nat->C:=fun n=>if own.getD n false then (cs[n]?).getD .dead else .dead
def Inj (R:Nat->C) (m:Nat->aq->Value):Prop:=∀ n p n' p' b,ak (R n) p->ak (R n') p'->blk (m n p)=some b->blk (m n' p')=some b->n=n'/\p=p'
structure FrK (w:World) (K:Nat->Prop) (w':World):Prop where
 os:w'.os=w.os
 tape:w'.tape=w.tape
 output:w'.output=w.output
 drawn:w.drawn<=w'.drawn
 size:w.heap.size<=w'.heap.size
 block:∀ b,b < w.heap.size->¬ K b->w'.heap[b]?=w.heap[b]?
def Ho (P:Program) (f:FuncId) (us:List Value) (w:World) (Q:Value->World->Prop):Prop:=
 ((callFunc f us.toArray).run P w=.ok (.enter f us.toArray) w/\Calls P f us.toArray w fun e w'=>∃ u,e=.returned u/\Q u w') ∨
 ∃ u w',(callFunc f us.toArray).run P w=.ok (.value u) w'/\Q u w'
def Con (P:Program) (f:FuncId) (own:List Bool) (pure:Bool) (cs:List C) (r:C):Prop:=
 ∀ (w:World) (S:Nat->Prop) (m:Nat->aq->Value) (us:List Value),us.length=cs.length ->
  (∀ (i:Nat) (c:C),cs[i]?=some c->∃ u d,us[i]?=some u/\rel w (fun b=>S b/\¬ aI (R0 own cs) m b) L0 (m i) (own.getD i false) d [] c u)->Inj (R0 own cs) m ->
  Ho P f us w fun u w'=>∃ mr d,rel w' (fun b=>((pure=false/\(S b∨aI (R0 own cs) m b))∨w.heap.size<=b)/\¬ iR r mr b) L0 mr true d [] r u ∧
   (∀ q q' b,ak r q->ak r q'->blk (mr q)=some b->blk (mr q')=some b->q=q') ∧
   (∀ b,iR r mr b->w.heap.size<=b∨aI (R0 own cs) m b)/\FrK w (aI (R0 own cs) m) w'
def IC (P:Program) (f:FuncId):Prop:=∀ (w:World) (x y:Option Addr) (la ka lb kb:Nat),
 (∃ b1 o1 arr1 e1 b2 o2 arr2 e2,x=some ⟨b1,o1,none⟩/\y=some ⟨b2,o2,none⟩/\b1≠b2/\w.heap[b1]?=some (.cells arr1 e1 (0,0))/\w.heap[b2]?=some (.cells arr2 e2 (0,0))/\arr2.size≠0) ->
 (callFunc f #[.slice x la ka,.slice y lb kb]).run P w=.ok (.value (.bool false)) w
structure aA (P:Program) (f:FuncId) (fs:FnS):Prop where
 con:∀ cs r,fs.fn cs=some r->Con P f fs.own fs.pure cs r
 peek:fs.peek=true->IC P f
def Rl (k:Nat) (cs:List C):Nat->C:=fun n=>if n < k then (cs[n]?).getD .dead else .dead
def dH:C->Option (Nat × Option Nat)
 | .sl true _ es (some 1) [_]=>some (es,none)
 | .sl true none es none rows=>some (es,some rows.length)
 | _=>none
def Hd (c:C) (u h:Value):Prop:=match dH c with
 | some (_,none)=>∃ b off,u=.pointer (some ⟨b,off,none⟩)/\h=.slice (some ⟨b,off,none⟩) 1 1
 | _=>u=h∨∃ a a',u=.slice a 0 0/\h=.slice a' 0 0
def mP (P:Program) (f:FuncId) (k:Nat) (cs:List C) (r:C) (ls:List C):Prop:=
 ∀ (w:World) (S:Nat->Prop) (m:Nat->aq->Value) (us:List Value),us.length=cs.length ->
  (∀ (i:Nat) (c:C),cs[i]?=some c->k<=i->∃ u d,us[i]?=some u/\rel w (fun b=>S b/\¬ aI (Rl k cs) m b) L0 dm false d [] c u) ->
  (∀ (i:Nat) (c:C),cs[i]?=some c->i < k->∃ u d,us[i]?=some u/\Hd c u (m i [])/\rel w (fun b=>S b/\¬ aI (Rl k cs) m b) L0 (m i) true d [] c (m i [])) ->
  Inj (Rl k cs) m ->
  Ho P f us w fun u w'=>∃ mk:Nat->aq->Value,
   (∃ d,rel w' (fun b=>(S b∨aI (Rl k cs) m b∨w.heap.size<=b)/\¬ aI (Rl k ls) mk b) L0 dm false d [] r u) ∧
   (∀ (i:Nat) (c:C),ls[i]?=some c->mk i []=m i []/\∃ uu d,rel w' (fun b=>(S b∨aI (Rl k cs) m b∨w.heap.size<=b)/\¬ aI (Rl k ls) mk b) L0 (mk i) true d [] c uu) ∧
   Inj (Rl k ls) mk/\(∀ b,aI (Rl k ls) mk b->w.heap.size<=b∨aI (Rl k cs) m b)/\FrK w (aI (Rl k cs) m) w'
def aav (P:Program) (f:FuncId) (k:Nat) (cs:List C) (r:C) (ls:List C):Prop:=
 ∀ (w:World) (S:Nat->Prop) (m:Nat->aq->Value) (us:List Value),us.length=cs.length ->
  (∀ (i:Nat) (c:C),cs[i]?=some c->k<=i->∃ u d,us[i]?=some u/\rel w (fun b=>S b/\¬ aI (Rl k cs) m b) L0 dm false d [] c u) ->
  (∀ (i:Nat) (c:C),cs[i]?=some c->i < k->∃ u d,us[i]?=some u/\Hd c u (m i [])/\rel w (fun b=>S b/\¬ aI (Rl k cs) m b) L0 (m i) true d [] c (m i [])) ->
  Inj (Rl k cs) m ->
  Ho P f us w fun u w'=>∃ mk:Nat->aq->Value,
   (∃ d,rel w' (fun b=>(False∨aI (Rl k cs) m b∨w.heap.size<=b)/\¬ aI (Rl k ls) mk b) L0 dm false d [] r u) ∧
   (∀ (i:Nat) (c:C),ls[i]?=some c->mk i []=m i []/\∃ uu d,rel w' (fun b=>(False∨aI (Rl k cs) m b∨w.heap.size<=b)/\¬ aI (Rl k ls) mk b) L0 (mk i) true d [] c uu) ∧
   Inj (Rl k ls) mk/\(∀ b,aI (Rl k ls) mk b->w.heap.size<=b∨aI (Rl k cs) m b)/\FrK w (aI (Rl k cs) m) w'
def R1 (c:C):Nat->C:=fun n=>if n=0 then c else .dead
def ab9 (P:Program) (f:FuncId) (cs:List C) (r c:C):Prop:=
 ∀ (w:World) (S:Nat->Prop) (us:List Value),us.length=cs.length->(∀ (i:Nat) (c0:C),cs[i]?=some c0->∃ u d,us[i]?=some u/\rel w S L0 dm false d [] c0 u) ->
  Ho P f us w fun u w'=>∃ mk:aq->Value,
   (∃ d,rel w' (fun b=>(S b∨w.heap.size<=b)/\¬ iR c mk b) (Lv (R1 c) (fun _=>mk)) dm false d [] r u) ∧
   (∃ uu d,rel w' (fun b=>(S b∨w.heap.size<=b)/\¬ iR c mk b) L0 mk true d [] c uu) ∧
   (∀ q q' b,ak c q->ak c q'->blk (mk q)=some b->blk (mk q')=some b->q=q')/\(∀ b,iR c mk b->w.heap.size<=b)/\FrK w (fun _=>False) w'
structure w4 (P:Program) (f:FuncId) (fl:FnL):Prop where
 con:fl.k≠0->∀ cs rest r ls,cs.length=fl.k->fl.fn cs rest=some (r,ls)->mP P f fl.k (cs++rest) r ls
 pur:fl.k≠0->fl.pure=true->∀ cs rest r ls,cs.length=fl.k->fl.fn cs rest=some (r,ls)->aav P f fl.k (cs++rest) r ls
 new:fl.k=0->∀ rest r c,fl.fn [] rest=some (r,[c])->ab9 P f rest r c
def GOk (P:Program) (E:Env):Prop:=(∀ d f fs,E.G d f=some fs->aA P f fs)/\∀ d f fl,E.L d f=some fl->w4 P f fl
def mE (st:St):C->Option C
 | .pal n p lo len cap=>match st.node n p with
  | some (.sl true _ es _ rows)=>some (.sl false none es cap ((rows.drop lo).take len))
  | _=>none
 | .pref n p i j=>match st.node n p with
  | some (.sl true _ es _ rows)=>if rows.length=0 then none else some (.iref es rows i j)
  | _=>none
 | .agg _=>none
 | .tup _=>none
 | .clo _ _=>none
 | c=>some c
def Bo (st:St):List C->Option (List C)
 | []=>some []
 | c::cs=>match mE st c,Bo st cs with
  | some c',some cs'=>some (c'::cs')
  | _,_=>none
def E9 (st:St):C->Option C
 | .agg cs=>(Bo st cs).map .agg
 | .clo f cs=>(Bo st cs).map (.clo f)
 | c=>mE st c
def tQ (st:St):List C->Option (List C)
 | []=>some []
 | c::cs=>match E9 st c,tQ st cs with
  | some c',some cs'=>some (c'::cs')
  | _,_=>none
def lh:C->Bool
 | .pal ..=>true
 | .pref ..=>true
 | _=>false
def oF:C->Bool
 | .pal ..=>true
 | .pref ..=>true
 | .agg cs=>cs.any lh
 | .clo _ cs=>cs.any lh
 | _=>false
def Dq (f:Nat->C->C):Nat->List C->List C
 | _,[]=>[]
 | j,c::cs=>f j c::Dq f (j+1) cs
def kr:Nat->Nat->aq->C->C
 | 0,_,_,_=>.dead
 | _+1,n,p,.sl true _ _ _ rows=>.pal n p 0 rows.length none
 | k+1,n,p,.agg cs=>.agg (Dq (fun j c=>kr k n (p++[(0,j)]) c) 0 cs)
 | k+1,n,p,.tup cs=>.tup (Dq (fun j c=>kr k n (p++[(0,j)]) c) 0 cs)
 | _+1,_,_,c=>c
def Cn:Nat->C->Bool
 | 0,_=>true
 | _+1,.sl true _ _ _ _=>true
 | k+1,.agg cs=>cs.any (Cn k)
 | k+1,.tup cs=>cs.any (Cn k)
 | _+1,_=>false
def El (d:Nat) (r:C) (st:St):St:=
 if Cn 3 r then { tmps:=(st.fresh d).tmps.set d (kr 3 d [] r),roots:=upd (st.fresh d).roots d r }
 else { st with tmps:=st.tmps.set d (kr 3 d [] r) }
section
variable {X:Ctx} {m:Nat->aq->Value} {st:St} {a:Act} {w:World} {P:Program}
def Gu (f:Nat->C->C):∀ (cs:List C) (j k:Nat),(Dq f j cs)[k]?=(cs[k]?).map (f (j+k)):=by
 intro cs
 induction cs with
 | nil=>intro j k; simp [Dq]
 | cons c cs ih=>
  intro j k;cases k with
  | zero=>simp [Dq]
  | succ k=>simp only [Dq,nn,ih]; congr 2; omega
def lN (f:Nat->C->C):∀ (cs:List C) (j:Nat),(Dq f j cs).length=cs.length:=by
 intro cs
 induction cs with
 | nil=>intro j; rfl
 | cons c cs ih=>intro j; simp [Dq,ih]
def qV {S S':Nat->Prop} {m m':aq->Value} (hS:∀ b,S b->S' b):∀ (d:Nat) {o:Bool} {p p':aq} {c:C} {u:Value},
  (o=true->∀ q b,ak c q->blk (m (p++q))=some b->S' b)->rel w S L0 m o d p c u->rel w S' L0 m' false d p' c u:=by
 intro d
 induction d with
 | zero=>intro o p p' c u _ h; exact h.elim
 | succ d ih=>
  intro o p p' c u hO h;cases c with
  | dead=>trivial
  | val v=>exact h
  | sl own nl es cap rows=>
   obtain ⟨a,k,h1,h2,h3,h4,hz,h5,h6,h7⟩:=h;refine ⟨a,k,h1,h2,h3,h4,hz,h5,by simp,?_⟩;rcases h7 with h7|h7|⟨b,off,arr,elem,frz,g1,g2,g3,g4,g5⟩
   ·exact .inl h7
   ·exact .inr (.inl ⟨by simp,h7.2⟩)
   ·by_cases hk:k=0
    ·exact .inl hk
    refine .inr (.inr ⟨b,off,arr,elem,frz,g1,g2,fun _=>?_,by simp,fun i j row c' e1 e2=>?_⟩)
    ·cases ho:(own && o) with
     | false=>exact hS b (g3 ho)
     | true=>
      simp only [cv] at ho;obtain ⟨rfl,rfl⟩:=ho;refine hO rfl [] b rfl ?_;rw [cT,<-h6 rfl,h1,g1];simp [blk,hk]
    ·obtain ⟨u',e3,e4⟩:=g5 i j row c' e1 e2;refine ⟨u',e3,?_⟩;simp only [nB];refine ih (o:=own && o) (p:=p++[(i,j)]) ?_ e4;intro ho q b' hq hb;simp only [cv] at ho;obtain ⟨rfl,rfl⟩:=ho;refine hO rfl ((i,j)::q) b' ?_ (by simpa using hb);unfold ak at hq ⊢;simpa only [C.at,C.kid,e1,cc,e2] using hq
  | agg cs=>
   obtain ⟨arr,h1,h2,h3⟩:=h;refine ⟨arr,h1,h2,fun j c' e=>?_⟩;obtain ⟨u',e1,e2⟩:=h3 j c' e;refine ⟨u',e1,ih (o:=o) (p:=p++[(0,j)]) ?_ e2⟩;intro ho q b' hq hb;refine hO ho ((0,j)::q) b' ?_ (by simpa using hb);unfold ak at hq ⊢;simpa only [C.at,C.kid,if_true,e,cc] using hq
  | tup cs=>
   obtain ⟨arr,h1,h2,h3⟩:=h;refine ⟨arr,h1,h2,fun j c' e=>?_⟩;obtain ⟨u',e1,e2⟩:=h3 j c' e;refine ⟨u',e1,ih (o:=o) (p:=p++[(0,j)]) ?_ e2⟩;intro ho q b' hq hb;refine hO ho ((0,j)::q) b' ?_ (by simpa using hb);unfold ak at hq ⊢;simpa only [C.at,C.kid,if_true,e,cc] using hq
  | clo f cs=>
   obtain ⟨arr,h1,h2,h3⟩:=h;exact ⟨arr,h1,h2,fun j c' e=>let ⟨u',e1,e2⟩:=h3 j c' e; ⟨u',e1,ih (o:=false) (p:=p) (fun h=>by simp at h) e2⟩⟩
  | iref es rows i j=>
   obtain ⟨b,off,arr,elem,frz,g1,g2,g3,g4,g5⟩:=h;exact ⟨b,off,arr,elem,frz,g1,g2,hS b g3,g4,fun i j row c' e1 e2=>let ⟨u',e3,e4⟩:=g5 i j row c' e1 e2; ⟨u',e3,ih (o:=false) (p:=p) (fun h=>by simp at h) e4⟩⟩
  | pref n p i j=>exact h.elim
  | pal n p lo len cap=>exact h.elim
def AX (w:World) (S:Nat->Prop) (c:C) (u:Value):Prop:=∃ d,rel w S L0 dm false d [] c u
def qU (N:Nat->Prop) (R:Nat->C) (m:Nat->aq->Value) (b:Nat):Prop:=∃ n p,N n/\ak (R n) p/\blk (m n p)=some b
def LQ (N:Nat->Prop) (c:C):Prop:=∀ d v n p,occ d c v->v.place=some (n,p)->N n
def vC {N:Nat->Prop} (H:ar X m st a w) {c c':C} {u:Value} (h:aB X m st w c u) (hN:LQ N c) (hs:mE st c=some c'):AX w (fun b=>X.S st.roots m b∨(lh c=true/\qU N st.roots m b)) c' u:=by
 have plain:(∀ d,¬ ∃ v,occ d c v)->AX w (fun b=>X.S st.roots m b∨(lh c=true/\qU N st.roots m b)) c u:=by
  intro hno;obtain ⟨d,h⟩:=h;exact ⟨d,av (fun b _ hb=>⟨.inl hb,rfl⟩) d (fun v u ho _=>(hno d ⟨v,ho⟩).elim) (fun h=>by simp at h) (fun h=>by simp at h) h⟩
 have node:∀ {n:Nat} {p:aq},N n->∀ {nl:Option Bool} {es:Nat} {cap:Option Nat} {rows:List (List C)},(st.roots n).at p=some (.sl true nl es cap rows)->∀ {b off k:Nat} {arr:Array Value} {elem:TypeId} {dd:Nat},m n p=.slice (some ⟨b,off,none⟩) rows.length k->k≠0 ->
   (∀ (i j:Nat) (row:List C) (c':C),rows[i]?=some row->row[j]?=some c'->∃ u',arr[off+i * es+j]?=some u'/\rel w (X.S st.roots m) L0 (m n) true dd (p++[(i,j)]) c' u') ->
   qU N st.roots m b/\∀ (i j:Nat) (row:List C) (c':C),rows[i]?=some row->row[j]?=some c'->∃ u',arr[off+i * es+j]?=some u'/\rel w (fun b=>X.S st.roots m b∨(True/\qU N st.roots m b)) L0 dm false dd [] c' u':=by
  intro n p hNn nl es cap rows hn b off k arr elem dd hm hk hc;refine ⟨⟨n,p,hNn,by unfold ak; rw [hn]; rfl,by rw [hm]; simp [blk,hk]⟩,?_⟩;intro i j row c' e1 e2;obtain ⟨u',e3,e4⟩:=hc i j row c' e1 e2;refine ⟨u',e3,qV (fun b hb=>.inl hb) dd ?_ e4⟩;intro _ q b' hq hb';refine .inr ⟨trivial,n,p++(i,j)::q,hNn,?_,by simpa using hb'⟩;unfold ak at hq ⊢;rw [C.at_append,hn];simpa [C.at,C.kid,e1,e2] using hq
 cases c with
 | dead=>simp only [mE,cb] at hs; subst hs; exact ⟨1,trivial⟩
 | val v=>simp only [mE,cb] at hs; subst hs; exact plain (fun d=>by rintro ⟨v,ho⟩; cases d<;>exact ho)
 | sl own nl es cap rows=>simp only [mE,cb] at hs; subst hs; exact plain (fun d=>by rintro ⟨v,ho⟩; cases d<;>exact ho)
 | iref es rows i j=>simp only [mE,cb] at hs; subst hs; exact plain (fun d=>by rintro ⟨v,ho⟩; cases d<;>exact ho)
 | agg cs=>simp [mE] at hs
 | tup cs=>simp [mE] at hs
 | clo f cs=>simp [mE] at hs
 | pref n p i j=>
  simp only [mE] at hs;split at hs
  ·rename_i nl es cap rows hn;split at hs
   ·simp at hs
   rename_i hne;simp only [cb] at hs;subst hs;obtain ⟨nl',es',cap',rows',b,off,k,f1,f2,rfl⟩:=mi h;have hn':(st.roots n).at p=some (.sl true nl es cap rows):=hn;rw [hn'] at f1;simp only [cb,C.sl.injEq,true_and] at f1;obtain ⟨rfl,rfl,rfl,rfl⟩:=f1;obtain ⟨u0,d0,hr0⟩:=H.root n;obtain ⟨u1,d1,hr1⟩:=vH p hr0 hn';simp only [cO] at hr1;obtain ⟨a1,k1,D,e1,e2,e3,e4,e5,ez,e6,e7⟩:=eb hr1;rw [f2] at e2;simp only [Value.slice.injEq] at e2;obtain ⟨rfl,_,rfl⟩:=e2;rcases e7 with e7|⟨b',off',arr,elem,g1,g2,g4,g5⟩
   ·omega
   ·simp only [cb,Addr.mk.injEq] at g1;obtain ⟨rfl,rfl,_⟩:=g1;by_cases hk0:k=0
    ·omega
    ·obtain ⟨n1,n2⟩:=node (elem:=elem) (hN 1 _ n p rfl rfl) hn' f2 hk0 g5;exact ⟨D+1,b,off,arr,elem,(0,0),rfl,g2,.inr ⟨rfl,n1⟩,e6,by simpa [lh] using n2⟩
  ·simp at hs
 | pal n p lo len cap=>
  simp only [mE] at hs;split at hs
  ·rename_i nl es cap' rows hn;simp only [cb] at hs;subst hs;obtain ⟨nl',es',cap'',rows',a0,k0,a',k',q1,q2,q3,rfl,q5,q6,q7,q8,q9⟩:=ei h;have hn':(st.roots n).at p=some (.sl true nl es cap' rows):=hn;rw [hn'] at q1;simp only [cb,C.sl.injEq,true_and] at q1;obtain ⟨rfl,rfl,rfl,rfl⟩:=q1;have hl:((rows.drop lo).take len).length=len:=by simp; omega
   obtain ⟨u0,d0,hr0⟩:=H.root n;obtain ⟨u1,d1,hr1⟩:=vH p hr0 hn';simp only [cO] at hr1;obtain ⟨a1,k1,D,e1,e2,e3,e4,e5,ez,e6,e7⟩:=eb hr1;rw [q2] at e2;simp only [Value.slice.injEq] at e2;obtain ⟨rfl,_,rfl⟩:=e2;have hzero:a'=none->k'=0:=by
    intro e;rcases q9 with q9|⟨b,off,_,hb⟩
    ·exact q9
    ·rw [hb] at e; simp at e
   have hes:∀ row∈(rows.drop lo).take len,row.length=es:=fun row hr=>e6 row (xu (nI hr));by_cases hk0:k'=0
   ·refine ⟨1,a',k',by rw [hl],by rw [hl]; exact q5,by omega,q7,⟨by simp,hzero⟩,hes,by simp,.inl hk0⟩
   ·rcases q9 with q9|⟨b,off,rfl,rfl⟩
    ·exact absurd q9 hk0
    ·rcases e7 with e7|⟨b',off',arr,elem,g1,g2,g4,g5⟩
     ·omega
     ·simp only [cb,Addr.mk.injEq] at g1;obtain ⟨rfl,rfl,_⟩:=g1;obtain ⟨n1,n2⟩:=node (elem:=elem) (hN 1 _ n p rfl rfl) hn' q2 (by omega) g5;refine ⟨D+1,_,k',by rw [hl],by rw [hl]; exact q5,by omega,q7,⟨by simp,hzero⟩,hes,by simp,.inr (.inr ⟨b,off+lo * es,arr,elem,(0,0),rfl,g2,fun _=>.inr ⟨rfl,n1⟩,by simp,?_⟩)⟩;intro i j row c' f1 f2;rw [cY] at f1;split at f1
      ·rw [cZ] at f1;obtain ⟨u',f3,f4⟩:=n2 (lo+i) j row c' f1 f2;refine ⟨u',by rw [<-f3]; congr 1; rw [cI]; omega,?_⟩;simpa [lh] using db f4
      ·simp at f1
  ·simp at hs
end
section
variable {X:Ctx} {m:Nat->aq->Value} {st:St} {a:Act} {w:World} {P:Program}
def Ps {S:Nat->Prop} {L:C->Value->Prop} {m m':aq->Value} {d:Nat} {p p':aq} {c:C} {u:Value} (hc:c.cellOk=true) (h:rel w S L m false d p c u):rel w S L0 m' false d p' c.frz u:=
 qV (m:=m') (p:=p) (fun _ h=>h) d (fun _ q b ho _=>(oz hc ho).elim) (A7 hc h)
def ar.loose (H:ar X m st a w) {n:Nat} {q:aq} {b:Nat} (ho:ak (st.roots n) q) (hb:blk (m n q)=some b):X.S (upd st.roots n .dead) m b:=by
 refine ⟨(H.own n q b ho hb).elim .inr (fun h=>.inl (X.kS b h)),?_⟩;rintro ⟨n',p',ho',hb'⟩;by_cases e:n'=n
 ·subst e; rw [aC] at ho'; exact aM ho'
 ·rw [aN e] at ho';exact e (H.inj _ _ _ _ b ho' ho hb' hb).1
def Wz {n:Nat} {b:Nat} (h:X.S st.roots m b):X.S (upd st.roots n .dead) m b:=by
 refine ⟨h.1,?_⟩;rintro ⟨n',p',ho',hb'⟩;by_cases e:n'=n
 ·subst e; rw [aC] at ho'; exact aM ho'
 ·rw [aN e] at ho'; exact h.2 ⟨n',p',ho',hb'⟩
def So (H:ar X m st a w) {n:Nat} {nl:Option Bool} {es:Nat} {cap:Option Nat} {rows:List (List C)} (hR:st.roots n=.sl true nl es cap rows) :
  ∃ d,rel w (X.S (upd st.roots n .dead) m) L0 dm false d [] (.sl true nl es cap rows) (m n []):=by
 obtain ⟨u0,d0,hr0⟩:=H.root n;have hu:u0=m n []:=by
  rw [hR] at hr0;obtain ⟨_,_,_,e,_⟩:=eb hr0;exact e
 subst hu;refine ⟨d0,?_⟩;have:=qV (m':=dm) (p':=[]) (S':=X.S (upd st.roots n .dead) m) (fun b hb=>Wz hb) d0 (fun _ q b ho hb=>H.loose ho (by simpa using hb)) hr0;rw [hR] at this;exact this
def Ub (H:ar X m st a w) {n:Nat} {nl:Option Bool} {es:Nat} {cap:Option Nat} {rows:List (List C)} (hR:st.roots n=.sl true nl es cap rows) {lo len:Nat} {cp:Option Nat} {u:Value} (hv:Lv st.roots m (.pal n [] lo len cp) u) :
  ∃ d,rel w (X.S (upd st.roots n .dead) m) L0 dm false d [] (.sl false none es cp ((rows.drop lo).take len)) u:=by
 obtain ⟨d,hr⟩:=So H hR;obtain ⟨nl',es',cap',rows',ad,k,a',k',g1,g2,g3,rfl,g5,g6,g7,g8,g9⟩:=hv;rw [hR] at g1;simp only [C.at,cb,C.sl.injEq,true_and] at g1;obtain ⟨rfl,rfl,rfl,rfl⟩:=g1;cases d with
 | zero=>exact hr.elim
 | succ d=>
 obtain ⟨a1,k1,e1,e2,e3,e4,ez,e5,e6,e7⟩:=hr;rw [g2] at e1;simp only [Value.slice.injEq,true_and] at e1;obtain ⟨rfl,rfl⟩:=e1;have hlen:((rows.drop lo).take len).length=len:=by simp; omega
 refine ⟨d+1,a',k',by rw [hlen],by omega,by omega,g7,⟨by simp,?_⟩,?_,by simp,?_⟩
 ·rintro rfl;rcases g9 with g9|⟨_,_,_,h⟩
  ·exact g9
  ·simp at h
 ·intro row hr;exact e5 row (xu (nI hr))
 ·rcases g9 with g9|⟨b,off,rfl,rfl⟩
  ·exact .inl g9
  ·by_cases hk:k'=0
   ·exact .inl hk
   rcases e7 with e7|⟨_,e7⟩|⟨b',off',arr,elem,frz,f1,f2,f3,f4,f5⟩
   ·omega
   ·subst e7; exact .inr (.inl ⟨rfl,by simp⟩)
   ·simp only [cb,Addr.mk.injEq,and_true] at f1;obtain ⟨rfl,rfl⟩:=f1;refine .inr (.inr ⟨b,_,arr,elem,frz,rfl,f2,fun _=>f3 (by simp),by simp,?_⟩);intro i j row c' h1 h2;rw [cY] at h1;split at h1
    case isFalse=>simp at h1
    rw [cZ] at h1;obtain ⟨u',k1,k2⟩:=f5 (lo+i) j row c' h1 h2;refine ⟨u',?_,db (by simpa using k2)⟩;rw [<-k1]
    congr 1
    rw [cI]; omega
def ar.retell (H:ar X m st a w) {t:Nat} {c:C} {u:Value} (hu:a.tmps[t]?=some u) (hr:aB X m st w c u):ar X m { st with tmps:=st.tmps.set t c } a w:=by
 refine ⟨by simp [H.len],?_,H.root,H.inj,H.own,H.fr,H.df⟩;intro t' c' hc;simp only [hC] at hc;split at hc
 ·rename_i e;subst e;split at hc
  ·simp only [cb] at hc;subst hc;obtain ⟨d,hd⟩:=hr;exact ⟨u,d,hu,hd⟩
  ·simp at hc
 ·exact H.tmp t' c' hc
def ar.freeze (H:ar X m st a w) {n t:Nat} {nl:Option Bool} {es:Nat} {cap:Option Nat} {rows:List (List C)} (hR:st.roots n=.sl true nl es cap rows) {lo len:Nat} {cp:Option Nat} (ht:st.tmps[t]?=some (.pal n [] lo len cp)) :
  ar X m { tmps:=(st.tmps.map (poi fun n' _=>n' == n)).set t (.sl false none es cp ((rows.drop lo).take len)),roots:=upd st.roots n .dead } a w:=by
 obtain ⟨u,d,h1,h2⟩:=H.tmp t _ ht;have hv:Lv st.roots m (.pal n [] lo len cp) u:=ei ⟨d,h2⟩;obtain ⟨d',hr⟩:=Ub H hR hv;refine ar.retell (st:=st.drop n) (H.drop n) h1 ⟨d',?_⟩;exact av (fun b _ hb=>⟨hb,rfl⟩) d' (fun _ _ _ h=>h.elim) (fun h=>by simp at h) (fun h=>by simp at h) hr
def wm (d es:Nat) (te:TI) (s x:C) (st:St):Option St:=
 match s with
 | .sl false _ es' (some kk) rows=>match jO st es x with
  | some extra=>if es'=es/\rows.all (·.all C.cellOk)=true/\kk=rows.length/\es≠0/\d < H0/\(rows.length+extra.length) * (te.bytes - 1+1)<=140737488355328 then
    some { tmps:=((st.fresh d).tmps.map (poi fun n' _=>n' == d)).set d (.sl false none es none (frzRows rows++extra)),roots:=(st.fresh d).roots }
   else none
  | none=>none
 | _=>none
def RY {E:Env} (hT:TOk P E) (H:ar X m st a w) {t tx ty:Nat} {ti tix te:TI} (hti:eS P t ti) (htix:eS P tx tix) {e es:Nat} (hkind:ti.kind=.slice e es) (hkx:tix.kind=.slice e es) (hte:eS P e te) {s x:C} {us ux:Value} (hs:aB X m st w s us) (hx:aB X m st w x ux) {d:Nat} {st':St} (hp:wm d es te s x st=some st') :
  ∃ u w',(Builtin.append_ #[t,tx] ty #[us,ux]).run P w=.ok u w'/\∃ m',ar X m' st' (a.put (some d) u) w':=by
 unfold wm at hp;split at hp
 case h_2=>simp at hp
 rename_i nl es' kk rows;split at hp
 case h_2=>simp at hp
 rename_i extra hex;split at hp
 case isFalse=>simp at hp
 rename_i hc;obtain ⟨rfl,hall,rfl,hes,hdH,hb⟩:=hc;simp only [cb] at hp;subst hp;obtain ⟨h1,hd⟩:=pI H d;have hon:=rh H hdH;have hpo:ar X m { tmps:=(st.fresh d).tmps.map (poi fun n' _=>n' == d),roots:=(st.fresh d).roots } a w:=by
  refine h1.forget _ (by simp) ?_;intro t c hc;simp only [cu,cj] at hc;obtain ⟨c0,h0,rfl⟩:=hc;rcases jH (fun n' _=>n' == d) c0 with h|⟨h,_⟩
  ·exact .inl h
  ·rw [h]; exact .inr h0
 by_cases hext:extra=[]
 ·subst hext;obtain ⟨dd,hs⟩:=hs;cases dd with
  | zero=>exact hs.elim
  | succ dd=>
  obtain ⟨ad,k,rfl,e2,e3,e4,ez,e5,e6,e7⟩:=hs;have hk:k=rows.length:=e4 _ rfl;subst hk;obtain ⟨dsc,hu,_,hkd⟩:=hti.und;rw [hkind] at hkd;obtain ⟨rfl,ie,hie,hiesz⟩:=hkd;obtain ⟨news,D,hS⟩:=wq hT H htix hkx hes hx hex;have hrun:=run_append_nothing (P:=P) w t tx ty e ie hu hie ad rows.length rows.length (cw _) ux (by
   have:=hS.src w rfl;have hn:news=[]:=cQ (by simpa using hS.len);rw [hn] at this;rw [hiesz];simpa using this)
  refine ⟨_,w,hrun,m,?_⟩;refine ar.put hpo (some d) (k:=dd+1) ?_;refine ⟨ad,rows.length,by simp [frzRows],by simp [frzRows],e3,by simp,⟨by simp,ez.2⟩,?_,by simp,?_⟩
  ·intro row hr;simp only [cT,frzRows,cJ] at hr;obtain ⟨r0,hr0,rfl⟩:=hr;simp [e5 r0 hr0]
  ·rcases e7 with e7|⟨_,e7⟩|⟨b,off,arr,elem,frz,f1,f2,f3,f4,f5⟩
   ·exact .inl e7
   ·subst e7; exact .inl rfl
   ·by_cases hr0:rows.length=0
    ·exact .inl hr0
    have hbs:b < w.heap.size:=(nc.1 f2).1;refine .inr (.inr ⟨b,off,arr,elem,frz,f1,f2,fun _=>hon.S b hbs (f3 (by simp)),by simp,?_⟩);intro i j row c' g1 g2;simp only [cT,frzRows,cu,cj] at g1;obtain ⟨r0,g1,rfl⟩:=g1;simp only [cu,cj] at g2;obtain ⟨c0,g2,rfl⟩:=g2;obtain ⟨u',k1,k2⟩:=f5 i j r0 c0 g1 g2;have hok:c0.cellOk=true:=by
     have:=cq.1 hall r0 (cg g1);exact cq.1 this c0 (cg g2)
    refine ⟨u',k1,?_⟩;have k3:=Ps (m':=dm) (p':=[]++[(i,j)]) hok (by simpa using k2);simp only [nB];exact av (fun b hlt hb=>⟨hon.S b hlt hb,rfl⟩) dd (fun _ _ _ h=>h) (fun h=>by simp at h) (fun h=>by simp at h) k3
 ·have hlen:0 < extra.length:=by cases extra with|nil=>exact (hext rfl).elim|cons _ _=>simp
  have hnew:gw d es' te tix (.sl false nl es' (some rows.length) rows) x st=some { tmps:=(st.fresh d).tmps.set d (.pal d [] 0 (frzRows rows++extra).length none),roots:=upd (st.fresh d).roots d (.sl true none es' none (frzRows rows++extra)) }:=by
   have h0:jO st es' (.sl false nl es' (some rows.length) rows)=some (frzRows rows):=by simp only [jO,true_and]; rw [if_pos hall]
   simp only [gw,tN,h0,Ez,hkx,if_true,hex,cx];rw [if_pos ⟨by simp [frzRows,Ext.all]; omega,hes,hdH,by simpa [frzRows,Ext.all] using hb⟩];rfl
  obtain ⟨u,w',hrun,m',hI⟩:=Ds (ty:=ty) hT H hti htix hkind hte hs hx hnew;refine ⟨u,w',hrun,m',?_⟩;have hdl:d < (st.fresh d).tmps.length∨¬ d < (st.fresh d).tmps.length:=Classical.em _;have eR:upd (upd (st.fresh d).roots d (.sl true none es' none (frzRows rows++extra))) d .dead=(st.fresh d).roots:=by
   funext y
   simp only [upd];split
   ·rename_i e; subst e; exact hd.symm
   ·rfl
  rcases hdl with hdl|hdl
  ·have:=hI.freeze (n:=d) (t:=d) (nl:=none) (es:=es') (cap:=none) (rows:=frzRows rows++extra) (by simp [aC]) (lo:=0) (len:=(frzRows rows++extra).length) (cp:=none) (by simp [hC,hdl]);rw [eR] at this;simp only [nQ,xw,xU,adQ] at this;exact this
  ·have:=hI.drop d;have e2:St.drop { tmps:=(st.fresh d).tmps.set d (.pal d [] 0 (frzRows rows++extra).length none),roots:=upd (st.fresh d).roots d (.sl true none es' none (frzRows rows++extra)) } d={ tmps:=(st.fresh d).tmps.map (poi fun n' _=>n' == d),roots:=(st.fresh d).roots }:=by
    simp only [St.drop,eR];rw [aep (by omega)]
   rw [e2] at this;rw [aep (by simp; omega)];exact this
end
section
variable {X:Ctx} {m:Nat->aq->Value} {st:St} {a:Act} {w:World} {P:Program}
def NU:∀ (k:Nat) {c:C} {q:aq},Cn k c=false->¬ ak c q:=by
 intro k
 induction k with
 | zero=>intro c q h; simp [Cn] at h
 | succ k ih=>
  intro c q h ho;cases c with
  | sl own nl es cap rows=>
   cases own with
   | true=>simp [Cn] at h
   | false=>cases q<;>simp [ak,C.at,C.kid,C.isOwn] at ho
  | agg cs=>
   simp only [Cn,xt,xm] at h;cases q with
   | nil=>simp [ak,C.at,C.isOwn] at ho
   | cons s q=>
    unfold ak at ho;simp only [C.at,C.kid] at ho;split at ho
    ·cases hc:cs[s.2]? with
     | none=>simp [hc] at ho
     | some c'=>simp only [hc,cc] at ho; exact ih (h c' (cg hc)) ho
    ·simp at ho
  | tup cs=>
   simp only [Cn,xt,xm] at h;cases q with
   | nil=>simp [ak,C.at,C.isOwn] at ho
   | cons s q=>
    unfold ak at ho;simp only [C.at,C.kid] at ho;split at ho
    ·cases hc:cs[s.2]? with
     | none=>simp [hc] at ho
     | some c'=>simp only [hc,cc] at ho; exact ih (h c' (cg hc)) ho
    ·simp at ho
  | _=>cases q<;>simp [ak,C.at,C.kid,C.isOwn] at ho
def QQ {S:Nat->Prop} {L:C->Value->Prop} {mr:aq->Value}:∀ (k:Nat) {d n:Nat} {p:aq} {c:C} {u:Value},rel w S L0 mr true d p c u ->
  (∀ q nl es cap rows u dd,c.at q=some (.sl true nl es cap rows)->rel w S L0 mr true dd (p++q) (.sl true nl es cap rows) u->L (.pal n (p++q) 0 rows.length none) u) ->
  rel w S L dm false (d+1) [] (kr k n p c) u:=by
 intro k
 induction k with
 | zero=>intro d n p c u _ _; trivial
 | succ k ih=>
  intro d n p c u h hL;cases d with
  | zero=>exact h.elim
  | succ d=>
   cases c with
   | dead=>trivial
   | val v=>exact h
   | sl own nl es cap rows=>
    cases own with
    | true=>
     have:=hL [] nl es cap rows u (d+1) rfl (by simpa using h);simp only [cT] at this;exact this
    | false=>
     obtain ⟨a,k,h1,h2,h3,h4,hz,h5,h6,h7⟩:=h;refine ⟨a,k,h1,h2,h3,h4,hz,h5,by simp,?_⟩;rcases h7 with h7|h7|⟨b,off,arr,elem,frz,g1,g2,g3,g4,g5⟩
     ·exact .inl h7
     ·exact .inr (.inl h7)
     ·exact .inr (.inr ⟨b,off,arr,elem,frz,g1,g2,fun _=>g3 (by simp),by simp,fun i j row c' e1 e2=>by
       obtain ⟨u',e3,e4⟩:=g5 i j row c' e1 e2;simp only [nX] at e4;exact ⟨u',e3,aT d _ (by omega) (by simpa using db e4)⟩⟩)
   | agg cs=>
    obtain ⟨arr,h1,h2,h3⟩:=h;refine ⟨arr,h1,by rw [lN]; exact h2,fun j c' e=>?_⟩;rw [Gu] at e;simp only [cj,cS] at e;obtain ⟨c0,e,rfl⟩:=e;obtain ⟨u',e1,e2⟩:=h3 j c0 e;refine ⟨u',e1,db (ih e2 ?_)⟩;intro q nl es cap rows u dd hq hr;have:=hL ((0,j)::q) nl es cap rows u dd (by simp only [C.at,C.kid,if_true,e,cc]; exact hq) (by simpa using hr);simpa using this
   | tup cs=>
    obtain ⟨arr,h1,h2,h3⟩:=h;refine ⟨arr,h1,by rw [lN]; exact h2,fun j c' e=>?_⟩;rw [Gu] at e;simp only [cj,cS] at e;obtain ⟨c0,e,rfl⟩:=e;obtain ⟨u',e1,e2⟩:=h3 j c0 e;refine ⟨u',e1,db (ih e2 ?_)⟩;intro q nl es cap rows u dd hq hr;have:=hL ((0,j)::q) nl es cap rows u dd (by simp only [C.at,C.kid,if_true,e,cc]; exact hq) (by simpa using hr);simpa using this
   | clo f cs=>
    obtain ⟨arr,h1,h2,h3⟩:=h;refine ⟨arr,h1,h2,fun j c' e=>?_⟩;obtain ⟨u',e1,e2⟩:=h3 j c' e;exact ⟨u',e1,aT d _ (by omega) (av (fun _ _ h=>⟨h,rfl⟩) d (fun _ _ _ h=>h.elim) (fun h=>by simp at h) (fun h=>by simp at h) e2)⟩
   | iref es rows i j=>
    obtain ⟨b,off,arr,elem,frz,g1,g2,g3,g4,g5⟩:=h;exact ⟨b,off,arr,elem,frz,g1,g2,g3,g4,fun i j row c' e1 e2=>let ⟨u',e3,e4⟩:=g5 i j row c' e1 e2; ⟨u',e3,aT d _ (by omega) (db e4)⟩⟩
   | pref n p i j=>exact h.elim
   | pal n p lo len cap=>exact h.elim
open Classical in
def za (H:ar X m st a w) {d:Nat} {ks:List Nat} {own:Bool} {r:C} {u:Value} {w':World} {mr:aq->Value} {d0:Nat} {Sr Kc:Nat->Prop} {tmps0:List C}
  (hd:own=true->st.roots d=.dead) (hdk:own=true->d∉ks) (hno:own=false->∀ q,¬ ak r q)
  (hr:rel w' Sr L0 mr true d0 [] r u) (hSr:∀ b,b < w'.heap.size->Sr b->(b < w.heap.size->(X.S st.roots m b/\¬ Kc b)∨Kc b)/\¬ iR r mr b)
  (hinj:∀ q q' b,ak r q->ak r q'->blk (mr q)=some b->blk (mr q')=some b->q=q') (hown:∀ b,iR r mr b->w.heap.size<=b∨Kc b)
  (hK:∀ b,Kc b->∃ h∈ks,∃ p,ak (st.roots h) p/\blk (m h p)=some b) (hfr:FrK w Kc w') (hl:tmps0.length=st.tmps.length)
  (ht:∀ (t:Nat) (c:C),tmps0[t]?=some c->c=.dead∨(st.tmps[t]?=some c/\∀ v u dd,occ dd c v->Lv st.roots m v u->∃ n p,v.place=some (n,p)/\n∉ks/\(own=true->n≠d))) :
  ar X (fun n p=>if n=d/\own=true then mr p else m n p) { tmps:=tmps0.set d (kr 3 d [] r),roots:=fun n=>if n=d/\own=true then r else if n∈ks then .dead else st.roots n } (a.put (some d) u) w':=by
 have R1:own=true->(fun n=>if n=d/\own=true then r else if n∈ks then C.dead else st.roots n) d=r:=by intro h; simp [h]
 have M1:own=true->∀ p,(fun n p=>if n=d/\own=true then mr p else m n p) d p=mr p:=by intro h p; simp [h]
 have Rn:∀ n,¬ (n=d/\own=true)->n∉ks->(if n=d/\own=true then r else if n∈ks then C.dead else st.roots n)=st.roots n:=by intro n h1 h2; simp [h1,h2]
 have Rk:∀ n,¬ (n=d/\own=true)->n∈ks->(if n=d/\own=true then r else if n∈ks then C.dead else st.roots n)=.dead:=by intro n h1 h2; simp [h1,h2]
 have Mn:∀ n p,¬ (n=d/\own=true)->(if n=d/\own=true then mr p else m n p)=m n p:=by intro n p h1; simp [h1]
 have cases_own:∀ n p b,ak (if n=d/\own=true then r else if n∈ks then C.dead else st.roots n) p->blk (if n=d/\own=true then mr p else m n p)=some b ->
   (n=d/\own=true/\ak r p/\blk (mr p)=some b)∨(¬ (n=d/\own=true)/\n∉ks/\ak (st.roots n) p/\blk (m n p)=some b):=by
  intro n p b ho hb;by_cases h1:n=d/\own=true
  ·rw [if_pos h1] at ho hb;exact .inl ⟨h1.1,h1.2,ho,hb⟩
  ·by_cases h2:n∈ks
   ·rw [Rk n h1 h2] at ho; exact (aM ho).elim
   ·rw [Rn n h1 h2] at ho; rw [Mn n p h1] at hb; exact .inr ⟨h1,h2,ho,hb⟩
 have old_lt:∀ n p b,ak (st.roots n) p->blk (m n p)=some b->b < w.heap.size:=fun n p b ho hb=>H.lt ho hb;have old_notK:∀ n p b,n∉ks->ak (st.roots n) p->blk (m n p)=some b->¬ Kc b:=by
  intro n p b hn ho hb hk;obtain ⟨h,hh,p',ho',hb'⟩:=hK b hk;have:=H.inj _ _ _ _ b ho ho' hb hb';exact hn (this.1 ▸ hh)
 have new_split:∀ n p b,n∉ks->ak (st.roots n) p->blk (m n p)=some b->¬ iR r mr b:=by
  intro n p b hn ho hb hr1;rcases hown b hr1 with h|h
  ·have:=old_lt n p b ho hb; omega
  ·exact old_notK n p b hn ho hb h
 have hS:∀ b,b < w.heap.size->X.S st.roots m b->X.S (fun n=>if n=d/\own=true then r else if n∈ks then C.dead else st.roots n) (fun n p=>if n=d/\own=true then mr p else m n p) b/\w'.heap[b]?=w.heap[b]?:=by
  intro b hlt hs;have hnk:¬ Kc b:=by
   intro hk;obtain ⟨h,_,p,ho,hb⟩:=hK b hk;exact hs.2 ⟨h,p,ho,hb⟩
  refine ⟨⟨hs.1,?_⟩,hfr.block b hlt hnk⟩;rintro ⟨n,p,ho,hb⟩;rcases cases_own n p b ho hb with ⟨_,_,h3,h4⟩|⟨_,_,h3,h4⟩
  ·rcases hown b ⟨p,h3,h4⟩ with h|h
   ·omega
   ·exact hnk h
  ·exact hs.2 ⟨n,p,h3,h4⟩
 have hSr':∀ b,b < w'.heap.size->Sr b->X.S (fun n=>if n=d/\own=true then r else if n∈ks then C.dead else st.roots n) (fun n p=>if n=d/\own=true then mr p else m n p) b:=by
  intro b hlt hs;obtain ⟨h1,h2⟩:=hSr b hlt hs;by_cases hb:b < w.heap.size
  ·rcases h1 hb with h1|h1
   ·exact (hS b hb h1.1).1
   ·obtain ⟨h,_,p,ho,hbk⟩:=hK b h1;refine ⟨(H.own h p b ho hbk).elim .inr (fun hk=>.inl (X.kS b hk)),?_⟩;rintro ⟨n,p',ho',hbk'⟩;rcases cases_own n p' b ho' hbk' with ⟨_,_,h3,h4⟩|⟨_,h5,h3,h4⟩
    ·exact h2 ⟨p',h3,h4⟩
    ·exact old_notK n p' b h5 h3 h4 h1
  ·refine ⟨.inr (nA H.fr.size (by omega)),?_⟩;rintro ⟨n,p,ho,hbk⟩;rcases cases_own n p b ho hbk with ⟨_,_,h3,h4⟩|⟨_,_,h3,h4⟩
   ·exact h2 ⟨p,h3,h4⟩
   ·exact hb (old_lt n p b h3 h4)
 have hrr:rel w' (X.S (fun n=>if n=d/\own=true then r else if n∈ks then C.dead else st.roots n) (fun n p=>if n=d/\own=true then mr p else m n p)) L0 mr true d0 [] r u:=
  av (fun b hlt hs=>⟨hSr' b hlt hs,rfl⟩) d0 (fun _ _ _ h=>h) (fun _ _ _ _ _ _=>rfl) (fun _ _ _=>rfl) hr
 have hview:aB X (fun n p=>if n=d/\own=true then mr p else m n p) { tmps:=tmps0,roots:=fun n=>if n=d/\own=true then r else if n∈ks then .dead else st.roots n } w' (kr 3 d [] r) u:=by
  refine ⟨d0+1,QQ 3 hrr ?_⟩;intro q nl es cap rows u' dd hq hrel;cases own with
  | false=>exact (hno rfl q (by unfold ak; rw [hq]; rfl)).elim
  | true=>
   obtain ⟨a1,k,dd',e1,e2,e3,e4,e5,ez,e6,e7⟩:=eb hrel;simp only [cO] at e1 e2 ⊢;refine ⟨nl,es,cap,rows,a1,k,a1,k,by simpa using hq,by simpa using e2,by omega,by rw [e1,e2],e3,by omega,by simp,by simp,?_⟩;rcases e7 with e7|⟨b,off,arr,elem,g1,_⟩
   ·exact .inl e7
   ·exact .inr ⟨b,off,g1,by simpa using g1⟩
 have base:ar X (fun n p=>if n=d/\own=true then mr p else m n p) { tmps:=tmps0,roots:=fun n=>if n=d/\own=true then r else if n∈ks then .dead else st.roots n } a w':=by
  refine ⟨by rw [H.len,hl],?_,?_,?_,?_,?_,H.df⟩
  ·intro t c htc;rcases ht t c htc with rfl|⟨h1,hv⟩
   ·have:t < a.tmps.size:=by rw [H.len,<-hl]; exact (cd.1 htc).1
    exact ⟨a.tmps[t],1,by simp [this],trivial⟩
   ·obtain ⟨u',d',e1,e2⟩:=H.tmp t c h1;refine ⟨u',d',e1,av hS d' ?_ (fun h=>by simp at h) (fun h=>by simp at h) e2⟩;intro v uv ho hlv;obtain ⟨n,p,hp,hn,hnd⟩:=hv v uv d' ho hlv;have h1':¬ (n=d/\own=true):=fun h=>hnd h.2 h.1;refine kH hp (Mn n p h1') ?_ hlv;intro nl es cap rows he;exact ⟨cap,rows,by simp only [Rn n h1' hn]; exact he,rfl⟩
  ·intro n;by_cases h1:n=d/\own=true
   ·obtain ⟨rfl,h2⟩:=h1;refine ⟨u,d0,?_⟩;have:(fun p=>if n=n/\own=true then mr p else m n p)=mr:=by funext p; simp [h2]
    simp only [h2,and_self,if_true];simp only [h2] at hrr;exact hrr
   ·by_cases h2:n∈ks
    ·exact ⟨undef,1,by simp only [Rk n h1 h2]; trivial⟩
    ·obtain ⟨u',d',hr'⟩:=H.root n;refine ⟨u',d',?_⟩;simp only [Rn n h1 h2];refine av hS d' (fun _ _ _ h=>h) ?_ ?_ hr'
     ·intro _ q b ho hb hlt;simp only [cO] at hb;exact hfr.block b hlt (old_notK n q b h2 ho hb)
     ·intro _ q ho;simp only [cO];exact Mn n q h1
  ·intro n p n' p' b ho ho' hb hb';rcases cases_own n p b ho hb with ⟨h1,h2,h3,h4⟩|⟨h1,h2,h3,h4⟩<;>rcases cases_own n' p' b ho' hb' with ⟨g1,g2,g3,g4⟩|⟨g1,g2,g3,g4⟩
   ·exact ⟨h1.trans g1.symm,hinj p p' b h3 g3 h4 g4⟩
   ·exact (new_split n' p' b g2 g3 g4 ⟨p,h3,h4⟩).elim
   ·exact (new_split n p b h2 h3 h4 ⟨p',g3,g4⟩).elim
   ·exact H.inj _ _ _ _ b h3 g3 h4 g4
  ·intro n p b ho hb;rcases cases_own n p b ho hb with ⟨h1,h2,h3,h4⟩|⟨h1,h2,h3,h4⟩
   ·rcases hown b ⟨p,h3,h4⟩ with h|h
    ·exact .inl (nA H.fr.size h)
    ·obtain ⟨x,_,p',ho',hb'⟩:=hK b h;exact H.own x p' b ho' hb'
   ·exact H.own n p b h3 h4
  ·refine ⟨hfr.os.trans H.fr.os,hfr.tape.trans H.fr.tape,hfr.output.trans H.fr.output,nA H.fr.drawn hfr.drawn,nA H.fr.size hfr.size,?_⟩;intro b hlt hk;have hlt':b < w.heap.size:=adg hlt H.fr.size;rw [hfr.block b hlt' ?_]
   ·exact H.fr.block b hlt hk
   ·intro hkc;obtain ⟨x,_,p,ho,hb⟩:=hK b hkc;rcases H.own x p b ho hb with h|h
    ·omega
    ·exact hk h
 exact base.putTmp d hview
end
def bo:C->List C
 | .agg cs=>cs
 | c=>[c]
def ib (R:Nat->C):Nat->List C->List C
 | _,[]=>[]
 | h,.agg cs::rest=>.agg (cs.mapIdx fun j _=>R (h+j))::ib R (h+cs.length) rest
 | h,_::rest=>R h::ib R (h+1) rest
section
variable {X:Ctx} {m:Nat->aq->Value} {st:St} {a:Act} {w:World} {P:Program}
def hOf (h:Nat):List C->Nat->Nat
 | [],_=>h
 | _::_,0=>h
 | c::cs,i+1=>hOf (h+(bo c).length) cs i
def Da (h:Nat):∀ (cs:List C) (g i:Nat),hOf (h+g) cs i=h+hOf g cs i
 | [],g,i=>by simp [hOf]
 | c::cs,g,0=>by simp [hOf]
 | c::cs,g,i+1=>by simp only [hOf]; rw [nf]; exact Da h cs _ i
def MH:∀ {cs:List C} {h i i':Nat} {c:C},cs[i]?=some c->i < i'->i' < cs.length->hOf h cs i+(bo c).length<=hOf h cs i':=by
 intro cs
 induction cs with
 | nil=>intro h i i' c hc; simp at hc
 | cons x cs ih=>
  intro h i i' c hc hlt hl;obtain ⟨i',rfl⟩:∃ k,i'=k+1:=⟨i' - 1,by omega⟩;simp only [cC] at hl;cases i with
  | zero=>
   simp only [cr,cb] at hc;subst hc;simp only [hOf];have:=Da (h+(bo x).length) cs 0 i';simp only [xa] at this;omega
  | succ i=>
   simp only [nn] at hc;simp only [hOf];exact ih hc (by omega) (by omega)
def j4 (R:Nat->C) (h:Nat):C->C
 | .agg cs=>.agg (cs.mapIdx fun j _=>R (h+j))
 | _=>R h
theorem sr (R:Nat->C) (h:Nat) (c:C) (cs:List C):ib R h (c::cs)=j4 R h c::ib R (h+(bo c).length) cs:=by
 cases c<;>rfl
def yr (R:Nat->C):∀ {cs:List C} {h i:Nat},(ib R h cs)[i]?=(cs[i]?).map (j4 R (hOf h cs i)):=by
 intro cs
 induction cs with
 | nil=>intro h i; simp [ib]
 | cons c cs ih=>
  intro h i;rw [sr];cases i with
  | zero=>simp [hOf]
  | succ i=>simp only [nn,hOf]; exact ih
def FH (R:Nat->C):∀ {cs:List C} {h:Nat},(ib R h cs).length=cs.length:=by
 intro cs
 induction cs with
 | nil=>intro h; rfl
 | cons c cs ih=>intro h; rw [sr]; simp [ih]
def GD (vs:List Value) (h:Nat):C->Value->Prop
 | .agg cs,u=>∃ arr:Array Value,u=.agg arr/\arr.size=cs.length/\∀ j,j < cs.length->vs[h+j]?=arr[j]?
 | _,u=>vs[h]?=some u
def KO {m:Nat->aq->Value} {st:St}:∀ {cs:List C} {us:List Value},us.length=cs.length->(∀ (j:Nat) (c:C),cs[j]?=some c->∃ u,us[j]?=some u/\aB X m st w c u) ->
  ∃ vs:List Value,vs.length=(cs.flatMap bo).length/\(∀ (j:Nat) (c:C),(cs.flatMap bo)[j]?=some c->∃ u,vs[j]?=some u/\aB X m st w c u) ∧
   ∀ (i:Nat) (c:C) (u:Value),cs[i]?=some c->us[i]?=some u->GD vs (hOf 0 cs i) c u:=by
 intro cs
 induction cs with
 | nil=>intro us hl _; exact ⟨[],rfl,by simp,by simp⟩
 | cons c cs ih=>
  intro us hl hr;cases us with
  | nil=>simp at hl
  | cons u us=>
   obtain ⟨vs,h1,h2,h3⟩:=ih (us:=us) (by simpa using hl) (fun j c' hj=>by have:=hr (j+1) c' (by simpa using hj); simpa using this);obtain ⟨u0,hu0,hrel⟩:=hr 0 c rfl;simp only [cr,cb] at hu0;subst hu0;have first:∃ ws:List Value,ws.length=(bo c).length/\(∀ (j:Nat) (c':C),(bo c)[j]?=some c'->∃ u,ws[j]?=some u/\aB X m st w c' u)/\∀ vs,GD (ws++vs) 0 c u:=by
    have one:∀ c':C,(bo c'=[c'])->aB X m st w c' u->(∀ vs,GD ([u]++vs) 0 c' u)->∃ ws:List Value,ws.length=(bo c').length/\(∀ (j:Nat) (c'':C),(bo c')[j]?=some c''->∃ u,ws[j]?=some u/\aB X m st w c'' u)/\∀ vs,GD (ws++vs) 0 c' u:=by
     intro c' hl' hr' hv';refine ⟨[u],by simp [hl'],?_,hv'⟩;intro j c'' hj;rw [hl'] at hj;cases j with
     | zero=>simp only [cr,cb] at hj; subst hj; exact ⟨u,rfl,hr'⟩
     | succ j=>simp at hj
    cases c with
    | agg cells=>
     obtain ⟨ws,e1,e2,e3⟩:=hrel.of_agg;refine ⟨ws,e2,e3,fun vs=>⟨ws.toArray,e1,by simpa using e2,fun j hj=>?_⟩⟩;rw [cS,cE (by omega)];simp
    | _=>exact one _ rfl hrel (fun vs=>by simp [GD])
   obtain ⟨ws,w1,w2,w3⟩:=first
   refine ⟨ws++vs,by simp [w1,h1],?_,?_⟩
   ·intro j c' hj;simp only [adR] at hj;by_cases hlt:j < (bo c).length
    ·rw [cE hlt] at hj;obtain ⟨u',e1,e2⟩:=w2 j c' hj;exact ⟨u',by rw [cE (by omega)]; exact e1,e2⟩
    ·rw [cP (by omega)] at hj;obtain ⟨u',e1,e2⟩:=h2 _ c' hj;exact ⟨u',by rw [cP (by omega),w1]; exact e1,e2⟩
   ·intro i c' u' hc hu;cases i with
    | zero=>
     simp only [cr,cb] at hc hu;subst hc; subst hu;exact w3 vs
    | succ i=>
     simp only [nn] at hc hu;have:=h3 i c' u' hc hu;have hh:hOf 0 (c::cs) (i+1)=ws.length+hOf 0 cs i:=by
      simp only [hOf];have:=Da (bo c).length cs 0 i;simp only [xa] at this;rw [cS,this,w1]
     rw [hh];have shift:∀ k,(ws++vs)[ws.length+k]?=vs[k]?:=by intro k; rw [cP (by omega)]; congr 1; omega
     cases c' with
     | agg cells=>
      obtain ⟨arr,e1,e2,e3⟩:=this;exact ⟨arr,e1,e2,fun j hj=>by rw [nf,shift]; exact e3 j hj⟩
     | _=>simpa only [GD,shift] using this
def ED {Q:Nat->Nat->Prop} (hm:∀ j d d',d<=d'->Q j d->Q j d'):∀ (n:Nat),(∀ j,j < n->∃ d,Q j d)->∃ D,∀ j,j < n->Q j D
 | 0,_=>⟨0,fun j hj=>by omega⟩
 | n+1,h=>by
  obtain ⟨D,hD⟩:=ED hm n (fun j hj=>h j (by omega));obtain ⟨d,hd⟩:=h n (by omega);refine ⟨max D d,fun j hj=>?_⟩;by_cases e:j=n
  ·subst e; exact hm _ _ _ (n9 _ _) hd
  ·exact hm _ _ _ (nW _ _) (hD j (by omega))
def gU (h:Nat):C->aq->Nat × aq
 | .agg _,(_,j)::p=>(h+j,p)
 | _,p=>(h,p)
def y4 {R:Nat->C} {h:Nat} {c:C} {q:aq} (ho:ak (j4 R h c) q):ak (R (gU h c q).1) (gU h c q).2/\h<=(gU h c q).1/\(gU h c q).1 < h+(bo c).length:=by
 cases c with
 | agg cs=>
  cases q with
  | nil=>simp [ak,j4,C.at,C.isOwn] at ho
  | cons s q=>
   unfold ak at ho;simp only [j4,C.at,C.kid] at ho;split at ho
   ·simp only [xx] at ho;cases hc:cs[s.2]? with
    | none=>simp [hc] at ho
    | some c'=>
     simp only [hc,cx,cc] at ho;have:s.2 < cs.length:=(cd.1 hc).1;exact ⟨ho,by simp [gU],by simp only [gU,bo]; omega⟩
   ·simp at ho
 | _=>exact ⟨ho,by simp [gU],by simp [gU,bo]⟩
def LK {R:Nat->C} {h:Nat} {c:C} {q q':aq} (ho:ak (j4 R h c) q) (ho':ak (j4 R h c) q') (he:gU h c q=gU h c q'):q=q':=by
 cases c with
 | agg cs=>
  cases q with
  | nil=>simp [ak,j4,C.at,C.isOwn] at ho
  | cons s q=>
   cases q' with
   | nil=>simp [ak,j4,C.at,C.isOwn] at ho'
   | cons s' q'=>
    have hs:s.1=0:=by
     unfold ak at ho;simp only [j4,C.at,C.kid] at ho;split at ho
     ·rename_i h0; exact h0
     ·simp at ho
    have hs':s'.1=0:=by
     unfold ak at ho';simp only [j4,C.at,C.kid] at ho';split at ho'
     ·rename_i h0; exact h0
     ·simp at ho'
    obtain ⟨i,j⟩:=s;obtain ⟨i',j'⟩:=s';simp only [gU,cz] at he;simp only at hs hs';rw [hs,hs',he.2,show j=j' by omega]
 | _=>simpa [gU] using he
def Ry {R:Nat->C} {S:Nat->Prop} {m:Nat->aq->Value} {h:Nat} {c:C} {u:Value} {vs:List Value} (hv:GD vs h c u)
  (hr:∀ n v,vs[n]?=some v->∃ d,rel w S L0 (m n) true d [] (R n) v):∃ d,rel w S L0 (fun q=>m (gU h c q).1 (gU h c q).2) true d [] (j4 R h c) u:=by
 have one:∀ c':C,(∀ q,gU h c' q=(h,q))->j4 R h c'=R h->vs[h]?=some u->∃ d,rel w S L0 (fun q=>m (gU h c' q).1 (gU h c' q).2) true d [] (j4 R h c') u:=by
  intro c' hl hb hv';obtain ⟨d,hd⟩:=hr h u hv';refine ⟨d,?_⟩;rw [hb];exact av (fun b _ hb=>⟨hb,rfl⟩) d (fun _ _ _ h=>h) (fun _ _ _ _ _ _=>rfl) (fun _ q _=>by simp only [cO]; rw [hl]) hd
 cases c with
 | agg cs=>
  obtain ⟨arr,rfl,h2,h3⟩:=hv;have:∃ D,∀ j,j < cs.length->∃ u',arr[j]?=some u'/\rel w S L0 (m (h+j)) true D [] (R (h+j)) u':=by
   refine ED (Q:=fun j D=>∃ u',arr[j]?=some u'/\rel w S L0 (m (h+j)) true D [] (R (h+j)) u') ?_ cs.length ?_
   ·rintro j d d' hd ⟨u',e1,e2⟩; exact ⟨u',e1,aT _ _ hd e2⟩
   ·intro j hj;have hlt:j < arr.size:=by omega
    have e1:arr[j]?=some arr[j]:=by simp [hlt]
    obtain ⟨d,hd⟩:=hr (h+j) arr[j] (by rw [h3 j hj]; exact e1);exact ⟨d,_,e1,hd⟩
  obtain ⟨D,hD⟩:=this;refine ⟨D+1,arr,rfl,by simpa using h2,?_⟩;intro j c' hj;simp only [xx,cj] at hj;obtain ⟨c0,hj,rfl⟩:=hj;obtain ⟨u',e1,e2⟩:=hD j (cd.1 hj).1;exact ⟨u',e1,av (fun b _ hb=>⟨hb,rfl⟩) D (fun _ _ _ h=>h) (fun _ _ _ _ _ _=>rfl) (fun _ q _=>by simp [gU]) e2⟩
 | _=>exact one _ (fun _=>rfl) rfl hv
end
def gi (st:St) (c:Call):Option (Nat × List C):=
 match c.callee with
 | .value x=>match st.ev x with
  | .clo f caps=>some (GA f,IX f (c.args.toList.map st.ev) caps)
  | _=>none
 | _=>none
def Bk:List Bool->List C->List C->Option (List C)
 | [],[],[]=>some []
 | true::fl,o::os,rs=>match Bk fl os rs with
  | some cs=>some (o::cs)
  | none=>none
 | false::fl,os,r::rs=>match Bk fl os rs with
  | some cs=>some (r::cs)
  | none=>none
 | _,_,_=>none
def jJ:List Bool->List C->List C
 | true::fl,c::cs=>c::jJ fl cs
 | false::fl,_::cs=>jJ fl cs
 | _,_=>[]
def gS:List Bool->List C->List C
 | true::fl,_::cs=>gS fl cs
 | false::fl,c::cs=>c::gS fl cs
 | _,_=>[]
def clr (k:Nat) (R:Nat->C):Nat->C:=fun n=>if H0<=n/\n < H0+k then .dead else R n
def JY (d:Nat) (fs:FnS) (args:List C) (st:St):Option St:=
 if args.length=fs.own.length/\d < H0 then
  match jz ((jJ fs.own args).flatMap bo).length H0 ((jJ fs.own args).flatMap bo) (.tup (gS fs.own args)) st with
  | some (st1,.tup rest)=>match tQ st1 (rest.map (poi fun n' _=>decide (H0<=n'))) with
   | some rs=>match Bk fs.own (ib st1.roots H0 (jJ fs.own args)) rs with
    | some cs=>if fs.pure=true∨rest.all (fun c=>!oF c)=true then match fs.fn cs with
      | some r=>some { tmps:=((st1.fresh d).tmps.map (poi fun n' _=>decide (H0<=n'))).set d (kr 3 d [] r),roots:=if Cn 3 r then upd (clr ((jJ fs.own args).flatMap bo).length (st1.fresh d).roots) d r else clr ((jJ fs.own args).flatMap bo).length (st1.fresh d).roots }
      | none=>none
     else none
    | none=>none
   | none=>none
  | _=>none
 else none
def qR:C->Bool
 | .sl true _ es _ _=>es != 0
 | _=>false
def JK (d:Nat) (args:List C) (st:St):Option St:=
 match args with
 | [.pal n [] _ len _,.pal n' [] _ len' _]=>match qR (st.roots n),qR (st.roots n') with
  | true,true=>if n≠n'/\len≠0/\len'≠0 then some (st.put (some d) (.val (.bool false))) else none
  | _,_=>none
 | _=>none
def EG:C->List Nat
 | .pal n _ _ _ _=>[n]
 | .pref n _ _ _=>[n]
 | _=>[]
def zm:C->List Nat
 | .pal n _ _ _ _=>[n]
 | .pref n _ _ _=>[n]
 | .agg cs=>cs.flatMap EG
 | .clo _ cs=>cs.flatMap EG
 | _=>[]
def yx:List Nat->St->St
 | [],st=>st
 | n::ns,st=>yx ns (st.drop n)
def Ha (ns:List Nat) (args:List C):Bool:=args.all fun c=>!(c.ment (fun n _=>!ns.contains n) 3)
def Ex (d:Nat) (fs:FnS) (args:List C) (st:St):Option St:=
 match tQ st args with
 | some cs=>if Ha (args.flatMap zm) args=true then match fs.fn cs with
   | some r=>some (El d r (yx (args.flatMap zm) st))
   | none=>none
  else none
 | none=>none
def PJ:C->Bool
 | .sl true _ _ (some 1) [_]=>true
 | _=>false
def PF:C->Nat->Option C
 | .sl true _ es _ rows,n=>if rows.length=n then some (.sl true none es none rows) else none
 | _,_=>none
def JJ (st:St):C->Option (Nat × C)
 | .pref n [] 0 0=>if PJ (st.roots n)=true then some (n,st.roots n) else none
 | .pal n [] 0 len none=>match PF (st.roots n) len with
  | some c=>some (n,c)
  | none=>none
 | _=>none
def zT (st:St):Nat->List C->Option (List (Nat × C))
 | 0,_=>some []
 | k+1,a::l=>match JJ st a with
  | some x=>match zT st k l with
   | some ns=>if (ns.map Prod.fst).contains x.1=true then none else some (x::ns)
   | none=>none
  | none=>none
 | _,_=>none
def Bh:C->Bool
 | .agg cs=>cs.all C.cellOk
 | c=>c.cellOk
def AE:List Nat->List C->(Nat->C)->Nat->C
 | n::ns,l::ls,R=>upd (AE ns ls R) n l
 | _,_,R=>R
def uS (ks:List Nat):Nat->aq->Bool:=fun n p=>ks.contains n && !p.isEmpty
def Ef (d:Nat) (fl:FnL) (args:List C) (st:St):Option St:=
 match zT st fl.k args with
 | some ns=>if (args.drop fl.k).all Bh=true then match fl.fn (ns.map Prod.snd) (args.drop fl.k) with
   | some (r,ls)=>if ls.map dH=ns.map (fun n=>dH n.2) then some { tmps:=(st.tmps.map (poi (uS (ns.map Prod.fst)))).set d r,roots:=AE (ns.map Prod.fst) ls st.roots } else none
   | none=>none
  else none
 | none=>none
def PQ:C->Bool
 | .pref 0 [] _ _=>true
 | .val _=>true
 | _=>false
def UP:C->Bool
 | .tup cs=>cs.all PQ
 | c=>PQ c
def Qw (d:Nat):C->C
 | .pref _ _ i j=>.pref d [] i j
 | c=>c
def LZ (d:Nat):C->C
 | .tup cs=>.tup (cs.map (Qw d))
 | c=>Qw d c
def Gw (d:Nat) (fl:FnL) (args:List C) (st:St):Option St:=
 match tQ st args with
 | some cs=>if args.all (fun c=>!oF c)=true then match fl.fn [] cs with
   | some (r,[c])=>if UP r=true then some { tmps:=(st.fresh d).tmps.set d (LZ d r),roots:=upd (st.fresh d).roots d c } else none
   | _=>none
  else none
 | none=>none
def EC (d:Nat) (fl:FnL) (args:List C) (st:St):Option St:=
 match args with
 | .pal n p 0 len none::rest=>if fl.k=1/\p.isEmpty=false/\rest.all Bh=true then match st.roots n,st.node n p with
   | .sl true nl0 es0 cap0 rows0,some (.sl true _ es _ rows)=>if rows.length=len then match fl.fn [.sl true none es none rows] rest with
     | some (r,[c])=>if dH c=some (es,some rows.length) then some { tmps:=(st.tmps.map (poi (uS [n]))).set d r,roots:=upd st.roots n ((C.sl true nl0 es0 cap0 rows0).turn (fun _=>c) p) } else none
     | _=>none
    else none
   | _,_=>none
  else none
 | _=>none
def Eg (d:Nat) (fl:FnL) (args:List C) (st:St):Option St:=
 match zT st fl.k args with
 | some ns=>if fl.pure=true/\Ha ((args.drop fl.k).flatMap zm) (args.drop fl.k)=true/\((args.drop fl.k).flatMap zm).all (fun v=>!(ns.map Prod.fst).contains v)=true then match tQ st (args.drop fl.k) with
   | some rs=>match fl.fn (ns.map Prod.snd) rs with
    | some (r,ls)=>if ls.map dH=ns.map (fun n=>dH n.2) then some { tmps:=(st.tmps.map (poi (uS (ns.map Prod.fst)))).set d r,roots:=AE (ns.map Prod.fst) ls st.roots } else none
    | none=>none
   | none=>none
  else none
 | none=>none
def PN (d:Nat) (fl:FnL) (args:List C) (st:St):Option St:=
 if fl.k=0 then Gw d fl args st else match Ef d fl args st with
  | some s=>some s
  | none=>match EC d fl args st with
   | some s=>some s
   | none=>Eg d fl args st
def GY (E:Env) (d:Nat) (f:Nat) (args:List C) (st:St):Option St:=
 match E.L d f with
 | some fl=>PN d fl args st
 | none=>match E.G d f with
  | some fs=>if fs.own=[] then match tQ st args with
    | some cs=>if fs.pure=true∨args.all (fun c=>!oF c)=true then match fs.fn cs with
      | some r=>some (El d r st)
      | none=>none
     else Ex d fs args st
    | none=>none
   else if fs.peek=true then JK d args st else JY d fs args st
  | none=>none
section
variable {X:Ctx} {m:Nat->aq->Value} {st:St} {a:Act} {w:World} {P:Program}
def OQ {S:Nat->Prop}:∀ (cs:List C) (us:List Value),us.length=cs.length->(∀ (j:Nat) (c:C),cs[j]?=some c->∃ u,us[j]?=some u/\AX w S c u) ->
  ∃ d,∀ (j:Nat) (c:C),cs[j]?=some c->∃ u,us[j]?=some u/\rel w S L0 dm false d [] c u:=by
 intro cs
 induction cs with
 | nil=>intro us _ _; exact ⟨0,by simp⟩
 | cons c cs ih=>
  intro us hl h;cases us with
  | nil=>simp at hl
  | cons u us=>
   obtain ⟨d,hd⟩:=ih us (by simpa using hl) (fun j c' hc=>by simpa using h (j+1) c' (by simpa using hc));obtain ⟨u',h1,d',h2⟩:=h 0 c rfl;simp only [cr,cb] at h1;subst h1;refine ⟨max d d',?_⟩;intro j c' hc;cases j with
   | zero=>simp only [cr,cb] at hc; subst hc; exact ⟨u,rfl,aT _ _ (n9 _ _) h2⟩
   | succ j=>
    obtain ⟨u'',h3,h4⟩:=hd j c' (by simpa using hc);exact ⟨u'',by simpa using h3,aT _ _ (nW _ _) h4⟩
def AX.mono {S S':Nat->Prop} {c:C} {u:Value} (h:AX w S c u) (hS:∀ b,S b->S' b):AX w S' c u:=by
 obtain ⟨d,h⟩:=h;exact ⟨d,av (fun b _ hb=>⟨hS b hb,rfl⟩) d (fun _ _ _ h=>h) (fun h=>by simp at h) (fun h=>by simp at h) h⟩
def Qq {N:Nat->Prop} (H:ar X m st a w):∀ {cs cs':List C} {us:List Value},us.length=cs.length->(∀ (j:Nat) (c:C),cs[j]?=some c->∃ u,us[j]?=some u/\aB X m st w c u)->(∀ c∈cs,LQ N c)->Bo st cs=some cs' ->
  cs'.length=cs.length/\∀ (j:Nat) (c:C),cs'[j]?=some c->∃ u,us[j]?=some u/\AX w (fun b=>X.S st.roots m b∨(cs.any lh=true/\qU N st.roots m b)) c u:=by
 intro cs
 induction cs with
 | nil=>intro cs' us _ _ _ hs; simp only [Bo,cb] at hs; subst hs; simp
 | cons c cs ih=>
  intro cs' us hl hr hN hs;cases us with
  | nil=>simp at hl
  | cons u us=>
   simp only [Bo] at hs;split at hs
   ·rename_i c0 cs0 h1 h2;simp only [cb] at hs;subst hs;obtain ⟨u0,e1,e2⟩:=hr 0 c rfl;simp only [cr,cb] at e1;subst e1;have g1:=vC H e2 (hN c (by simp)) h1;obtain ⟨g2,g3⟩:=ih (us:=us) (by simpa using hl) (fun j c' hc=>by simpa using hr (j+1) c' (by simpa using hc)) (fun c' hc'=>hN c' (by simp [hc'])) h2;refine ⟨by simp [g2],?_⟩;intro j c' hj;cases j with
    | zero=>
     simp only [cr,cb] at hj;subst hj;exact ⟨u,rfl,g1.mono (fun b hb=>hb.imp id (fun h=>⟨by simp [h.1],h.2⟩))⟩
    | succ j=>
     obtain ⟨u',f1,f2⟩:=g3 j c' (by simpa using hj);exact ⟨u',by simpa using f1,f2.mono (fun b hb=>hb.imp id (fun h=>⟨by simp only [adS,h.1,nE],h.2⟩))⟩
   ·simp at hs
def Yj {N:Nat->Prop} (H:ar X m st a w) {c c':C} {u:Value} (h:aB X m st w c u) (hN:LQ N c) (hs:E9 st c=some c'):AX w (fun b=>X.S st.roots m b∨(oF c=true/\qU N st.roots m b)) c' u:=by
 cases c with
 | agg cs=>
  simp only [E9,cj] at hs;obtain ⟨cs',hs,rfl⟩:=hs;obtain ⟨us,rfl,h1,h2⟩:=h.of_agg;obtain ⟨g1,g2⟩:=Qq H h1 h2 (fun c' hc' d v n p ho=>hN (d+1) v n p ⟨c',hc',ho⟩) hs;obtain ⟨d,hd⟩:=OQ cs' us (by omega) g2;refine ⟨d+1,us.toArray,rfl,by simp [h1,g1],fun j c hc=>?_⟩;obtain ⟨u,e1,e2⟩:=hd j c hc;exact ⟨u,by simpa using e1,db e2⟩
 | clo f cs=>
  simp only [E9,cj] at hs;obtain ⟨cs',hs,rfl⟩:=hs;obtain ⟨dd,h⟩:=h;cases dd with
  | zero=>exact h.elim
  | succ dd=>
   obtain ⟨arr,rfl,h1,h2⟩:=h;obtain ⟨g1,g2⟩:=Qq H (us:=arr.toList) (by simpa using h1) (fun j c hc=>by
    obtain ⟨u',e1,e2⟩:=h2 j c hc;exact ⟨u',by simpa using e1,dd,e2⟩) (fun c' hc' d v n p ho=>hN (d+1) v n p ⟨c',hc',ho⟩) hs
   obtain ⟨d,hd⟩:=OQ cs' arr.toList (by simp [h1,g1]) g2;refine ⟨d+1,arr,rfl,by simp [h1,g1],fun j c hc=>?_⟩;obtain ⟨u,e1,e2⟩:=hd j c hc;exact ⟨u,by simpa using e1,e2⟩
 | tup cs=>simp [E9,mE] at hs
 | dead=>exact (vC H h hN hs).mono (fun b hb=>hb.imp id (fun h=>⟨by simp [lh] at h,h.2⟩))
 | val v=>exact (vC H h hN hs).mono (fun b hb=>hb.imp id (fun h=>⟨by simp [lh] at h,h.2⟩))
 | sl own nl es cap rows=>exact (vC H h hN hs).mono (fun b hb=>hb.imp id (fun h=>⟨by simp [lh] at h,h.2⟩))
 | iref es rows i j=>exact (vC H h hN hs).mono (fun b hb=>hb.imp id (fun h=>⟨by simp [lh] at h,h.2⟩))
 | pref n p i j=>exact (vC H h hN hs).mono (fun b hb=>hb.imp id (fun h=>⟨rfl,h.2⟩))
 | pal n p lo len cap=>exact (vC H h hN hs).mono (fun b hb=>hb.imp id (fun h=>⟨rfl,h.2⟩))
def AS {N:Nat->Prop} (H:ar X m st a w):∀ {cs cs':List C} {us:List Value},us.length=cs.length->(∀ (j:Nat) (c:C),cs[j]?=some c->∃ u,us[j]?=some u/\aB X m st w c u)->(∀ c∈cs,LQ N c)->tQ st cs=some cs' ->
  cs'.length=cs.length/\∀ (j:Nat) (c:C),cs'[j]?=some c->∃ u,us[j]?=some u/\AX w (fun b=>X.S st.roots m b∨(cs.any oF=true/\qU N st.roots m b)) c u:=by
 intro cs
 induction cs with
 | nil=>intro cs' us _ _ _ hs; simp only [tQ,cb] at hs; subst hs; simp
 | cons c cs ih=>
  intro cs' us hl hr hN hs;cases us with
  | nil=>simp at hl
  | cons u us=>
   simp only [tQ] at hs;split at hs
   ·rename_i c0 cs0 h1 h2;simp only [cb] at hs;subst hs;obtain ⟨u0,e1,e2⟩:=hr 0 c rfl;simp only [cr,cb] at e1;subst e1;have g1:=Yj H e2 (hN c (by simp)) h1;obtain ⟨g2,g3⟩:=ih (us:=us) (by simpa using hl) (fun j c' hc=>by simpa using hr (j+1) c' (by simpa using hc)) (fun c' hc'=>hN c' (by simp [hc'])) h2;refine ⟨by simp [g2],?_⟩;intro j c' hj;cases j with
    | zero=>
     simp only [cr,cb] at hj;subst hj;exact ⟨u,rfl,g1.mono (fun b hb=>hb.imp id (fun h=>⟨by simp [h.1],h.2⟩))⟩
    | succ j=>
     obtain ⟨u',f1,f2⟩:=g3 j c' (by simpa using hj);exact ⟨u',by simpa using f1,f2.mono (fun b hb=>hb.imp id (fun h=>⟨by simp only [adS,h.1,nE],h.2⟩))⟩
   ·simp at hs
def tn (H:ar X m st a w) {c:Call} {ty:TypeId} {f:Nat} {args:List C} (h:gi st c=some (f,args)) :
  ∃ us:List Value,us.length=args.length/\(∀ (j:Nat) (c:C),args[j]?=some c->∃ u,us[j]?=some u/\aB X m st w c u) ∧
   (do let d <-resolve a.eval c ty; invoke d.target d.args:Sem Next).run P w=(callFunc f us.toArray).run P w:=by
 obtain ⟨callee,cargs,ctys⟩:=c;unfold gi at h;cases callee with
 | value x=>
  simp only at h;split at h
  ·rename_i f' caps hx;simp only [cb,cz] at h;obtain ⟨rfl,rfl⟩:=h;have hr:=bm H x;rw [hx] at hr;obtain ⟨d,hr⟩:=hr;cases d with
   | zero=>exact hr.elim
   | succ d=>
    obtain ⟨arr,h1,h2,h3⟩:=hr;have hev:=Ix H cargs.toList;by_cases hB:f' < B0
    ·simp only [IX,GA,hB,if_true];simp only [DS,hB,if_true] at h1;refine ⟨cargs.toList.map a.eval++arr.toList,by simp [h2],?_,?_⟩
     ·intro j c hj;by_cases hlt:j < cargs.toList.length
      ·rw [cE (by simpa using hlt)] at hj ⊢;exact hev j c hj
      ·rw [cP (by simpa using hlt)] at hj ⊢;simp only [cy] at hj ⊢;obtain ⟨u,e1,e2⟩:=h3 _ c hj;exact ⟨u,by simpa using e1,d,e2⟩
     ·have earr:(cargs.toList.map a.eval++arr.toList).toArray=cargs.map a.eval++arr:=by
       rw [<-aeq]
       congr 1
       rw [<-ac4,xL]
      rw [earr];simp [resolve,h1,Deferred.ofValue,invoke]
    ·simp only [IX,GA,hB,if_false];simp only [DS,hB,if_false] at h1;refine ⟨arr.toList++cargs.toList.map a.eval,by simp [h2],?_,?_⟩
     ·intro j c hj;by_cases hlt:j < caps.length
      ·rw [cE hlt] at hj;rw [cE (by simp [h2,hlt])];obtain ⟨u,e1,e2⟩:=h3 _ c hj;exact ⟨u,by simpa using e1,d,e2⟩
      ·rw [cP (by omega)] at hj;rw [cP (by simp [h2]; omega)];have:=hev _ c hj;simpa [h2] using this
     ·have earr:(arr.toList++cargs.toList.map a.eval).toArray=arr++cargs.map a.eval:=by
       rw [<-aeq,xL]
       congr 1
       rw [<-ac4,xL]
      rw [earr];simp [resolve,h1,Deferred.ofValue,invoke]
  ·simp at h
 | invoke _ _=>simp at h
 | builtin _=>simp at h
def pD (cs:List C):R0 [] cs=fun _=>.dead:=by funext n; simp [R0]
def eU {m:Nat->aq->Value} {b:Nat}:¬ aI (fun _=>C.dead) m b:=by
 rintro ⟨n,p,ho,_⟩;exact aM ho
def A9 {o:Oper} {c:Call} (hop:o.op=.call c) {f:Nat} {us:List Value} {Q:Value->World->Prop} (hd:Ho P f us w Q) (hrun:(do let d <-resolve a.eval c o.type; invoke d.target d.args:Sem Next).run P w=(callFunc f us.toArray).run P w) {K:Act->World->Prop} {Qx:Exit->Act->World->Prop}
  (hk:∀ u w',Q u w'->K (a.put o.dst u) w'):o.wp P a w K Qx:=by
 unfold Oper.wp execOp;simp only [hop];rw [hrun];rcases hd with ⟨h1,h2⟩|⟨u,w',h1,h2⟩
 ·rw [h1,Oper.upon_enter];refine h2.mono ?_;rintro e w' ⟨u,rfl,hq⟩;exact hk u w' hq
 ·rw [h1,Oper.upon_value];exact hk u w' h2
def Tw {E:Env} (hG:GOk P E) (H:ar X m st a w) {o:Oper} {c:Call} (hop:o.op=.call c) {d f:Nat} (hdst:o.dst=some d) {args:List C} (hc:gi st c=some (f,args)) {fs:FnS} (hfs:E.G d f=some fs) (hown:fs.own=[]) {cs:List C} {r:C} (hsn:tQ st args=some cs)
  (hpv:fs.pure=true∨args.all (fun c=>!oF c)=true) (hr:fs.fn cs=some r) (hdH:d < H0) {Qx:Exit->Act->World->Prop} :
  o.wp P a w (fun a' w'=>∃ m',ar X m' (El d r st) a' w'/\(∀ n,n≠d->∀ q,m' n q=m n q)/\∀ b,b < w.heap.size->w'.heap[b]?=w.heap[b]?) Qx:=by
 obtain ⟨us,hl,hrel,hrun⟩:=tn (P:=P) (ty:=o.type) H hc;obtain ⟨s1,s2⟩:=AS (N:=fun _=>True) H hl hrel (fun _ _ _ _ _ _ _ _=>trivial) hsn;have hcon:=(hG.1 d f fs hfs).con cs r hr;rw [hown] at hcon;obtain ⟨S,hS1,hS2⟩:∃ S:Nat->Prop,(∀ (j:Nat) (c:C),cs[j]?=some c->∃ u,us[j]?=some u/\AX w S c u)/\(fs.pure=false->∀ b,S b->X.S st.roots m b):=by
  cases hp:fs.pure with
  | true=>exact ⟨fun _=>True,fun j c hj=>let ⟨u,e1,e2⟩:=s2 j c hj; ⟨u,e1,e2.mono (fun _ _=>trivial)⟩,by simp⟩
  | false=>
   have hno:args.any oF=false:=by
    rcases hpv with h|h
    ·rw [hp] at h; simp at h
    ·rw [xt];intro c hcm;have:=cq.1 h c hcm;simpa using this
   refine ⟨X.S st.roots m,fun j c hj=>let ⟨u,e1,e2⟩:=s2 j c hj; ⟨u,e1,e2.mono (fun b hb=>?_)⟩,fun _ b hb=>hb⟩;rcases hb with hb|⟨hb,_⟩
   ·exact hb
   ·rw [hno] at hb; simp at hb
 have hdoes:=hcon w S (fun _=>dm) us (by omega) (by
  intro i c hi;obtain ⟨u,e1,d',e2⟩:=hS1 i c hi;refine ⟨u,d',e1,?_⟩;simp only [ac9,pD];exact av (fun b _ hb=>⟨⟨hb,eU⟩,rfl⟩) d' (fun _ _ _ h=>h) (fun h=>by simp at h) (fun h=>by simp at h) e2) (by
  intro n p n' p' b ho;rw [pD] at ho;exact (aM ho).elim)
 refine A9 hop hdoes hrun ?_;rintro u w' ⟨mr,d0,q1,q2,q3,q4⟩;rw [hdst];have hfr:FrK w (fun _=>False) w':=⟨q4.os,q4.tape,q4.output,q4.drawn,q4.size,fun b hb _=>q4.block b hb (by rw [pD]; exact eU)⟩;have hq3:∀ b,iR r mr b->w.heap.size<=b∨False:=fun b hb=>by
  rcases q3 b hb with h|h
  ·exact .inl h
  ·rw [pD] at h; exact (eU h).elim
 unfold El;split
 ·rename_i hod;obtain ⟨h1,hd1⟩:=pI H d;have hon:=rh H hdH;have:=za h1 (d:=d) (ks:=[]) (own:=true) (r:=r) (u:=u) (w':=w') (mr:=mr) (Sr:=fun b=>((fs.pure=false/\(S b∨aI (R0 [] cs) (fun _=>dm) b))∨w.heap.size<=b)/\¬ iR r mr b) (Kc:=fun _=>False) (tmps0:=(st.fresh d).tmps)
   (fun _=>hd1) (by simp) (by simp) q1 (by
    rintro b _ ⟨e2,e3⟩;refine ⟨fun hlt=>.inl ⟨?_,id⟩,e3⟩;rcases e2 with ⟨e1,e2|e2⟩|e2
    ·exact hon.S b hlt (hS2 e1 b e2)
    ·rw [pD] at e2; exact (eU e2).elim
    ·omega) q2 hq3 (by simp) hfr rfl (by
    intro t c0 ht;refine .inr ⟨ht,fun v uv dd ho hl=>?_⟩;cases hp:v.place with
    | none=>cases v<;>simp [C.place] at hp<;>exact hl.elim
    | some np=>
     obtain ⟨n,p⟩:=np;exact ⟨n,p,rfl,by simp,fun _=>by rintro rfl; exact yU hp hl hd1⟩)
  have e:(fun n=>if n=d/\true=true then r else if n∈([]:List Nat) then C.dead else (st.fresh d).roots n)=upd (st.fresh d).roots d r:=by
   funext n; simp [upd]
  rw [e] at this;exact ⟨_,this,fun n hn q=>by simp [hn],fun b hb=>hfr.block b hb (fun h=>h)⟩
 ·rename_i hod;have:=za H (d:=d) (ks:=[]) (own:=false) (r:=r) (u:=u) (w':=w') (mr:=mr) (Sr:=fun b=>((fs.pure=false/\(S b∨aI (R0 [] cs) (fun _=>dm) b))∨w.heap.size<=b)/\¬ iR r mr b) (Kc:=fun _=>False) (tmps0:=st.tmps)
   (by simp) (by simp) (fun _ q=>NU 3 (by simpa using hod)) q1 (by
    rintro b _ ⟨e2,e3⟩;refine ⟨fun hlt=>.inl ⟨?_,id⟩,e3⟩;rcases e2 with ⟨e1,e2|e2⟩|e2
    ·exact hS2 e1 b e2
    ·rw [pD] at e2; exact (eU e2).elim
    ·omega) q2 hq3 (by simp) hfr rfl (by
    intro t c0 ht;refine .inr ⟨ht,fun v uv dd ho hl=>?_⟩;cases hp:v.place with
    | none=>cases v<;>simp [C.place] at hp<;>exact hl.elim
    | some np=>
     obtain ⟨n,p⟩:=np;exact ⟨n,p,rfl,by simp,by simp⟩)
  have e:(fun n=>if n=d/\false=true then r else if n∈([]:List Nat) then C.dead else st.roots n)=st.roots:=by
   funext n; simp
  rw [e] at this;exact ⟨_,this,fun n hn q=>by simp [hn],fun b hb=>hfr.block b hb (fun h=>h)⟩
def OY (H:ar X m st a w):∀ (ns:List Nat) {st:St},ar X m st a w->ar X m (yx ns st) a w
 | [],_,h=>h
 | n::ns,_,h=>OY H ns (h.drop n)
def Jv:∀ (ns:List Nat) (st:St) (n:Nat),(yx ns st).roots n=if n∈ns then .dead else st.roots n
 | [],st,n=>by simp [yx]
 | k::ns,st,n=>by
  rw [yx,Jv ns];by_cases h:n∈ns
  ·simp [h]
  ·by_cases e:n=k
   ·subst e; simp [h,St.drop,aC]
   ·simp [h,e,St.drop,aN e]
def Sm {E:Env} (hG:GOk P E) (H:ar X m st a w) {o:Oper} {c:Call} (hop:o.op=.call c) {d f:Nat} (hdst:o.dst=some d) {args:List C} (hc:gi st c=some (f,args)) {fs:FnS} (hfs:E.G d f=some fs) (hown:fs.own=[])
  {st':St} (hx:Ex d fs args st=some st') (hdH:d < H0) {Qx:Exit->Act->World->Prop} :
  o.wp P a w (fun a' w'=>∃ m',ar X m' st' a' w') Qx:=by
 obtain ⟨us,hl,hrel,hrun⟩:=tn (P:=P) (ty:=o.type) H hc;unfold Ex at hx;split at hx
 case h_2=>simp at hx
 rename_i cs hsn;split at hx
 case isFalse=>simp at hx
 rename_i hso;split at hx
 case h_2=>simp at hx
 rename_i r hr;simp only [cb] at hx;subst hx;generalize hns:args.flatMap zm=ns at *;have hsees:∀ c∈args,LQ (fun n=>n∈ns) c:=by
  intro c hcm dd v n p ho hp;have h1:=cq.1 hso c hcm;simp only [nC] at h1;obtain ⟨n',p',e1,e2⟩:=iC dd 3 c v h1 ho;rw [hp] at e1;cases e1;simpa using e2
 obtain ⟨s1,s2⟩:=AS (N:=fun n=>n∈ns) H hl hrel hsees hsn;have hcon:=(hG.1 d f fs hfs).con cs r hr;rw [hown] at hcon;have Hd:=OY H ns H;have hSd:∀ b,(X.S st.roots m b∨qU (fun n=>n∈ns) st.roots m b)->X.S (yx ns st).roots m b:=by
  intro b hb;have hold:∀ n p,ak ((yx ns st).roots n) p->n∉ns/\ak (st.roots n) p:=by
   intro n p ho;rw [Jv] at ho;split at ho
   ·exact (aM ho).elim
   ·rename_i hn; exact ⟨hn,ho⟩
  rcases hb with hb|⟨n,p,hn,ho,hb⟩
  ·exact ⟨hb.1,fun ⟨n',p',ho',hb'⟩=>hb.2 ⟨n',p',(hold n' p' ho').2,hb'⟩⟩
  ·refine ⟨(H.own n p b ho hb).elim .inr (fun h=>.inl (X.kS b h)),?_⟩;rintro ⟨n',p',ho',hb'⟩;obtain ⟨h1,h2⟩:=hold n' p' ho';exact h1 ((H.inj _ _ _ _ b h2 ho hb' hb).1 ▸ hn)
 have hdoes:=hcon w (fun b=>X.S st.roots m b∨qU (fun n=>n∈ns) st.roots m b) (fun _=>dm) us (by omega) (by
  intro i c hi;obtain ⟨u,e1,e2⟩:=s2 i c hi;obtain ⟨d',e2⟩:=e2.mono (S':=fun b=>X.S st.roots m b∨qU (fun n=>n∈ns) st.roots m b) (fun b hb=>hb.imp id (fun h=>h.2));refine ⟨u,d',e1,?_⟩;simp only [ac9,pD];exact av (fun b _ hb=>⟨⟨hb,eU⟩,rfl⟩) d' (fun _ _ _ h=>h) (fun h=>by simp at h) (fun h=>by simp at h) e2) (by
  intro n p n' p' b ho;rw [pD] at ho;exact (aM ho).elim)
 refine A9 hop hdoes hrun ?_;rintro u w' ⟨mr,d0,q1,q2,q3,q4⟩;rw [hdst];generalize yx ns st=st2 at *;have hfr:FrK w (fun _=>False) w':=⟨q4.os,q4.tape,q4.output,q4.drawn,q4.size,fun b hb _=>q4.block b hb (by rw [pD]; exact eU)⟩;have hq3:∀ b,iR r mr b->w.heap.size<=b∨False:=fun b hb=>by
  rcases q3 b hb with h|h
  ·exact .inl h
  ·rw [pD] at h; exact (eU h).elim
 unfold El;split
 ·rename_i hod;obtain ⟨h1,hd1⟩:=pI Hd d;have hon:=rh Hd hdH;have:=za h1 (d:=d) (ks:=[]) (own:=true) (r:=r) (u:=u) (w':=w') (mr:=mr) (Sr:=fun b=>((fs.pure=false/\((X.S st.roots m b∨qU (fun n=>n∈ns) st.roots m b)∨aI (R0 [] cs) (fun _=>dm) b))∨w.heap.size<=b)/\¬ iR r mr b) (Kc:=fun _=>False) (tmps0:=(st2.fresh d).tmps)
   (fun _=>hd1) (by simp) (by simp) q1 (by
    rintro b _ ⟨e2,e3⟩;refine ⟨fun hlt=>.inl ⟨?_,id⟩,e3⟩;rcases e2 with ⟨e1,e2|e2⟩|e2
    ·exact hon.S b hlt (hSd b e2)
    ·rw [pD] at e2; exact (eU e2).elim
    ·omega) q2 hq3 (by simp) hfr rfl (by
    intro t c0 ht;refine .inr ⟨ht,fun v uv dd ho hl=>?_⟩;cases hp:v.place with
    | none=>cases v<;>simp [C.place] at hp<;>exact hl.elim
    | some np=>
     obtain ⟨n,p⟩:=np;exact ⟨n,p,rfl,by simp,fun _=>by rintro rfl; exact yU hp hl hd1⟩)
  have e:(fun n=>if n=d/\true=true then r else if n∈([]:List Nat) then C.dead else (st2.fresh d).roots n)=upd (st2.fresh d).roots d r:=by
   funext n; simp [upd]
  rw [e] at this;exact ⟨_,this⟩
 ·rename_i hod;have:=za Hd (d:=d) (ks:=[]) (own:=false) (r:=r) (u:=u) (w':=w') (mr:=mr) (Sr:=fun b=>((fs.pure=false/\((X.S st.roots m b∨qU (fun n=>n∈ns) st.roots m b)∨aI (R0 [] cs) (fun _=>dm) b))∨w.heap.size<=b)/\¬ iR r mr b) (Kc:=fun _=>False) (tmps0:=st2.tmps)
   (by simp) (by simp) (fun _ q=>NU 3 (by simpa using hod)) q1 (by
    rintro b _ ⟨e2,e3⟩;refine ⟨fun hlt=>.inl ⟨?_,id⟩,e3⟩;rcases e2 with ⟨e1,e2|e2⟩|e2
    ·exact hSd b e2
    ·rw [pD] at e2; exact (eU e2).elim
    ·omega) q2 hq3 (by simp) hfr rfl (by
    intro t c0 ht;refine .inr ⟨ht,fun v uv dd ho hl=>?_⟩;cases hp:v.place with
    | none=>cases v<;>simp [C.place] at hp<;>exact hl.elim
    | some np=>
     obtain ⟨n,p⟩:=np;exact ⟨n,p,rfl,by simp,by simp⟩)
  have e:(fun n=>if n=d/\false=true then r else if n∈([]:List Nat) then C.dead else st2.roots n)=st2.roots:=by
   funext n; simp
  rw [e] at this;exact ⟨_,this⟩
def fR:List Bool->Nat->Nat
 | true::fl,i+1=>fR fl i+1
 | false::fl,i+1=>fR fl i
 | _,_=>0
def yz:List Bool->Nat->Nat
 | true::fl,i+1=>yz fl i
 | false::fl,i+1=>yz fl i+1
 | _,_=>0
def RS:∀ {fl:List Bool} {i i':Nat},fl[i]?=some true->i < i'->i' < fl.length->fR fl i < fR fl i':=by
 intro fl
 induction fl with
 | nil=>intro i i' h; simp at h
 | cons b fl ih=>
  intro i i' h hlt hl;obtain ⟨i',rfl⟩:∃ k,i'=k+1:=⟨i' - 1,by omega⟩;simp only [cC] at hl;cases i with
  | zero=>
   simp only [cr,cb] at h;subst h;simp [fR]
  | succ i=>
   have:=ih (i:=i) (i':=i') (by simpa using h) (by omega) (by omega);cases b<;>simp only [fR]<;>omega
def Wf:∀ {fl:List Bool} {os rs cs:List C},Bk fl os rs=some cs->cs.length=fl.length ∧
  (∀ i c,cs[i]?=some c->fl[i]?=some true->os[fR fl i]?=some c)/\(∀ i c,cs[i]?=some c->fl[i]?=some false->rs[yz fl i]?=some c):=by
 intro fl
 induction fl with
 | nil=>
  intro os rs cs h;cases os<;>cases rs<;>simp [Bk] at h
  subst h;simp
 | cons b fl ih=>
  intro os rs cs h;cases b with
  | true=>
   cases os with
   | nil=>simp [Bk] at h
   | cons o os=>
    simp only [Bk] at h;split at h
    case h_2=>simp at h
    rename_i cs' hc;simp only [cb] at h;subst h;obtain ⟨h1,h2,h3⟩:=ih hc;refine ⟨by simp [h1],?_,?_⟩
    ·intro i c hi hf;cases i with
     | zero=>simpa [fR] using hi
     | succ i=>simpa [fR] using h2 i c (by simpa using hi) (by simpa using hf)
    ·intro i c hi hf;cases i with
     | zero=>simp at hf
     | succ i=>simpa [yz] using h3 i c (by simpa using hi) (by simpa using hf)
  | false=>
   cases rs with
   | nil=>cases os<;>simp [Bk] at h
   | cons r rs=>
    simp only [Bk] at h;split at h
    case h_2=>simp at h
    rename_i cs' hc;simp only [cb] at h;subst h;obtain ⟨h1,h2,h3⟩:=ih hc;refine ⟨by simp [h1],?_,?_⟩
    ·intro i c hi hf;cases i with
     | zero=>simp at hf
     | succ i=>simpa [fR] using h2 i c (by simpa using hi) (by simpa using hf)
    ·intro i c hi hf;cases i with
     | zero=>simpa [yz] using hi
     | succ i=>simpa [yz] using h3 i c (by simpa using hi) (by simpa using hf)
def Vq {Q:C->Value->Prop}:∀ {fl:List Bool} {args:List C} {us:List Value},args.length=fl.length->us.length=args.length->(∀ (j:Nat) (c:C),args[j]?=some c->∃ u,us[j]?=some u/\Q c u) ->
  ∃ uo ur:List Value,uo.length=(jJ fl args).length/\ur.length=(gS fl args).length ∧
   (∀ (j:Nat) (c:C),(jJ fl args)[j]?=some c->∃ u,uo[j]?=some u/\Q c u)/\(∀ (j:Nat) (c:C),(gS fl args)[j]?=some c->∃ u,ur[j]?=some u/\Q c u) ∧
   (∀ i u,fl[i]?=some true->us[i]?=some u->uo[fR fl i]?=some u)/\(∀ i u,fl[i]?=some false->us[i]?=some u->ur[yz fl i]?=some u):=by
 intro fl
 induction fl with
 | nil=>
  intro args us h1 h2 _;have:args=[]:=cQ h1;subst this;exact ⟨[],[],rfl,rfl,by simp [jJ],by simp [gS],by simp,by simp⟩
 | cons b fl ih=>
  intro args us h1 h2 hr;cases args with
  | nil=>simp at h1
  | cons c args=>
   cases us with
   | nil=>simp at h2
   | cons u us=>
    obtain ⟨uo,ur,g1,g2,g3,g4,g5,g6⟩:=ih (args:=args) (us:=us) (by simpa using h1) (by simpa using h2) (fun j c' hj=>by simpa using hr (j+1) c' (by simpa using hj));obtain ⟨u0,e1,e2⟩:=hr 0 c rfl;simp only [cr,cb] at e1;subst e1;cases b with
    | true=>
     refine ⟨u::uo,ur,by simp [jJ,g1],by simpa [gS] using g2,?_,by simpa [gS] using g4,?_,?_⟩
     ·intro j c' hj;cases j with
      | zero=>simp only [jJ,cr,cb] at hj; subst hj; exact ⟨u,rfl,e2⟩
      | succ j=>simpa using g3 j c' (by simpa [jJ] using hj)
     ·intro i u' hf hu;cases i with
      | zero=>simpa [fR] using hu
      | succ i=>simpa [fR] using g5 i u' (by simpa using hf) (by simpa using hu)
     ·intro i u' hf hu;cases i with
      | zero=>simp at hf
      | succ i=>simpa [yz] using g6 i u' (by simpa using hf) (by simpa using hu)
    | false=>
     refine ⟨uo,u::ur,by simpa [jJ] using g1,by simp [gS,g2],by simpa [jJ] using g3,?_,?_,?_⟩
     ·intro j c' hj;cases j with
      | zero=>simp only [gS,cr,cb] at hj; subst hj; exact ⟨u,rfl,e2⟩
      | succ j=>simpa using g4 j c' (by simpa [gS] using hj)
     ·intro i u' hf hu;cases i with
      | zero=>simp at hf
      | succ i=>simpa [fR] using g5 i u' (by simpa using hf) (by simpa using hu)
     ·intro i u' hf hu;cases i with
      | zero=>simpa [yz] using hu
      | succ i=>simpa [yz] using g6 i u' (by simpa using hf) (by simpa using hu)
def Zk (h:Nat):∀ {cs:List C} {i:Nat} {c:C},cs[i]?=some c->hOf h cs i+(bo c).length<=h+(cs.flatMap bo).length:=by
 intro cs
 induction cs generalizing h with
 | nil=>intro i c hc; simp at hc
 | cons x cs ih=>
  intro i c hc;simp only [adR,hU];cases i with
  | zero=>simp only [cr,cb] at hc; subst hc; simp only [hOf]; omega
  | succ i=>
   have:=ih (h+(bo x).length) (i:=i) (c:=c) (by simpa using hc);simp only [hOf]; omega
def M4 {E:Env} (hG:GOk P E) (H:ar X m st a w) {o:Oper} {c:Call} (hop:o.op=.call c) {d f:Nat} (hdst:o.dst=some d) {args:List C} (hc:gi st c=some (f,args)) {fs:FnS} (hfs:E.G d f=some fs)
  {st':St} (hx:JY d fs args st=some st') {Qx:Exit->Act->World->Prop} :
  o.wp P a w (fun a' w'=>∃ m',ar X m' st' a' w'/\G3 (some d) m st w m' st' w') Qx:=by
 obtain ⟨us,hl,hrel,hrun⟩:=tn (P:=P) (ty:=o.type) H hc;unfold JY at hx;split at hx
 case isFalse=>simp at hx
 rename_i hlen;obtain ⟨hlen,hdH⟩:=hlen;split at hx
 case h_2=>simp at hx
 rename_i st1 rest hprep;split at hx
 case h_2=>simp at hx
 rename_i rs hsn;split at hx
 case h_2=>simp at hx
 rename_i cs hint;split at hx
 case isFalse=>simp at hx
 rename_i hpv;split at hx
 case h_2=>simp at hx
 rename_i r hfn;simp only [cb] at hx;subst hx;obtain ⟨uo,ur,p1,p2,p3,p4,p5,p6⟩:=Vq hlen hl hrel;obtain ⟨vs,v1,v2,v3⟩:=KO p1 p3;have hkeep:aB X m st w (.tup (gS fs.own args)) (.tuple ur.toArray):=by
  have:∃ D,∀ j,j < (gS fs.own args).length->∃ c u,(gS fs.own args)[j]?=some c/\ur[j]?=some u/\rel w (X.S st.roots m) (Lv st.roots m) dm false D [] c u:=by
   refine ED (Q:=fun j D=>∃ c u,(gS fs.own args)[j]?=some c/\ur[j]?=some u/\rel w (X.S st.roots m) (Lv st.roots m) dm false D [] c u) ?_ _ ?_
   ·rintro j d d' hd ⟨c,u,e1,e2,e3⟩; exact ⟨c,u,e1,e2,aT _ _ hd e3⟩
   ·intro j hj;have e1:(gS fs.own args)[j]?=some (gS fs.own args)[j]:=by simp [hj]
    obtain ⟨u,e2,D,e3⟩:=p4 j _ e1;exact ⟨D,_,u,e1,e2,e3⟩
  obtain ⟨D,hD⟩:=this;refine ⟨D+1,ur.toArray,rfl,by simp [p2],?_⟩;intro j c hj;obtain ⟨c',u,e1,e2,e3⟩:=hD j (cd.1 hj).1;rw [hj] at e1;cases e1;exact ⟨u,by simpa using e2,db e3⟩
 obtain ⟨m1,H1,hk1,hhands,_,hm1,_⟩:=Af _ rfl v1 (cw _) H v2 hkeep hprep;obtain ⟨dk,hk1⟩:=hk1;cases dk with
 | zero=>exact hk1.elim
 | succ dk=>
 obtain ⟨arr,harr,hk2,hk3⟩:=hk1;simp only [Value.tuple.injEq] at harr;subst harr;have hrest:∀ (j:Nat) (c:C),(rest.map (poi fun n' _=>decide (H0<=n')))[j]?=some c->∃ u,ur[j]?=some u/\aB X m1 st1 w c u:=by
  intro j c hj;simp only [cu,cj] at hj;obtain ⟨c0,hj,rfl⟩:=hj;obtain ⟨u,e1,e2⟩:=hk3 j c0 hj;refine ⟨u,by simpa using e1,?_⟩;rcases jH (fun n' _=>decide (H0<=n')) c0 with h|⟨h,_⟩
  ·rw [h]; exact ⟨1,trivial⟩
  ·rw [h]; exact ⟨dk,db e2⟩
 have hsees:∀ c∈rest.map (poi fun n' _=>decide (H0<=n')),LQ (fun n=>n < H0) c:=by
  intro c hc dd v n p ho hp;simp only [cJ] at hc;obtain ⟨c0,_,rfl⟩:=hc;rcases jH (fun n' _=>decide (H0<=n')) c0 with h|⟨h,hm⟩
  ·rw [h] at ho; cases dd<;>exact ho.elim
  ·rw [h] at ho;obtain ⟨n',p',e1,e2⟩:=iC dd 3 c0 v hm ho;rw [hp] at e1;cases e1;simpa using e2
 have hlr:ur.length=(rest.map (poi fun n' _=>decide (H0<=n'))).length:=by simp only [cy]; simpa using hk2
 obtain ⟨s1,s2⟩:=AS (N:=fun n=>n < H0) H1 hlr hrest hsees hsn;have hcon:=(hG.1 d f fs hfs).con cs r hfn;obtain ⟨i1,i2,i3⟩:=Wf hint
 let os:=jJ fs.own args
 let nm:Nat->aq->Nat × aq:=fun i q=>gU (hOf H0 os (fR fs.own i)) ((os[fR fs.own i]?).getD .dead) q
 let mc:Nat->aq->Value:=fun i q=>m1 (nm i q).1 (nm i q).2
 have IG:∀ i c,cs[i]?=some c->fs.own[i]?=some true->∃ c0,os[fR fs.own i]?=some c0/\c=j4 st1.roots (hOf H0 os (fR fs.own i)) c0:=by
  intro i c hi hf;have:=i2 i c hi hf;rw [yr] at this;simp only [cj] at this;obtain ⟨c0,e1,e2⟩:=this;exact ⟨c0,e1,e2.symm⟩
 have R0_own:∀ i q,ak (R0 fs.own cs i) q->fs.own[i]?=some true/\∃ c c0,cs[i]?=some c/\os[fR fs.own i]?=some c0/\ak (j4 st1.roots (hOf H0 os (fR fs.own i)) c0) q/\nm i q=gU (hOf H0 os (fR fs.own i)) c0 q:=by
  intro i q ho;unfold R0 at ho;cases hf:fs.own.getD i false with
  | false=>rw [hf] at ho; simp only [cR,if_false] at ho; exact (aM ho).elim
  | true=>
   rw [hf] at ho;simp only [if_true] at ho;have hf':fs.own[i]?=some true:=by
    rw [xN] at hf;cases h:fs.own[i]? with
    | none=>simp [h] at hf
    | some b=>simp only [h,nk] at hf; rw [hf]
   cases hci:cs[i]? with
   | none=>rw [hci] at ho; exact (aM ho).elim
   | some c=>
    rw [hci] at ho;simp only [nk] at ho;obtain ⟨c0,e1,e2⟩:=IG i c hci hf';rw [e2] at ho;exact ⟨hf',c,c0,rfl,e1,ho,by simp only [nm,e1,nk]⟩
 have R0_names:∀ i q,ak (R0 fs.own cs i) q->ak (st1.roots (nm i q).1) (nm i q).2/\H0<=(nm i q).1/\(nm i q).1 < H0+(os.flatMap bo).length:=by
  intro i q ho;obtain ⟨_,c,c0,e1,e2,e3,e4⟩:=R0_own i q ho;obtain ⟨g1,g2,g3⟩:=y4 e3;have:=Zk H0 e2;have hge:H0<=hOf H0 os (fR fs.own i):=by have:=Da H0 os 0 (fR fs.own i); simp only [xa] at this; omega
  rw [e4];exact ⟨g1,by omega,by omega⟩
 have hinj:Inj (R0 fs.own cs) mc:=by
  intro n p n' p' b ho ho' hb hb';obtain ⟨f1,c,c0,e1,e2,e3,e4⟩:=R0_own n p ho;obtain ⟨f2,c',c0',e1',e2',e3',e4'⟩:=R0_own n' p' ho';have hsame:=H1.inj _ _ _ _ b (R0_names n p ho).1 (R0_names n' p' ho').1 hb hb';have hsame:nm n p=nm n' p':=Prod.ext hsame.1 hsame.2;rw [e4,e4'] at hsame;obtain ⟨_,r1,r2⟩:=y4 e3;obtain ⟨_,r3,r4⟩:=y4 e3';have l1:n < fs.own.length:=(cd.1 f1).1;have l2:n' < fs.own.length:=(cd.1 f2).1;have m1':fR fs.own n < os.length:=(cd.1 e2).1;have m2':fR fs.own n' < os.length:=(cd.1 e2').1;have hn:n=n':=by
   rcases xy n n' with hlt|heq|hgt
   ·have:=MH (h:=H0) e2 (RS f1 hlt l2) m2';rw [hsame] at r2;omega
   ·exact heq
   ·have:=MH (h:=H0) e2' (RS f2 hgt l1) m1';rw [<-hsame] at r4;omega
  subst hn;rw [e2] at e2';cases e2';exact ⟨rfl,LK e3 e3' hsame⟩
 have hOwnedK:∀ b,aI (R0 fs.own cs) mc b->∃ h∈List.range' H0 (os.flatMap bo).length,∃ p,ak (st1.roots h) p/\blk (m1 h p)=some b:=by
  rintro b ⟨n,p,ho,hb⟩;obtain ⟨g1,g2,g3⟩:=R0_names n p ho;exact ⟨_,xV.2 ⟨(nm n p).1 - H0,by omega,by omega⟩,_,g1,hb⟩
 have hOwned1:∀ b,aI (R0 fs.own cs) mc b->aI st1.roots m1 b:=fun b hb=>let ⟨h,_,p,g1,g2⟩:=hOwnedK b hb; ⟨h,p,g1,g2⟩
 obtain ⟨S,hS1,hS2,hS3⟩:∃ S:Nat->Prop,(∀ (j:Nat) (c:C),rs[j]?=some c->∃ u,ur[j]?=some u/\AX w (fun b=>S b/\¬ aI (R0 fs.own cs) mc b) c u)/\(fs.pure=false->∀ b,S b->X.S st1.roots m1 b)/\(∀ b,X.S st1.roots m1 b->S b):=by
  have hsharp:∀ b,(X.S st1.roots m1 b∨((rest.map (poi fun n' _=>decide (H0<=n'))).any oF=true/\qU (fun n=>n < H0) st1.roots m1 b))->¬ aI (R0 fs.own cs) mc b:=by
   rintro b (hb|⟨_,n,p,hn,ho,hb⟩) hO
   ·exact hb.2 (hOwned1 b hO)
   ·obtain ⟨h,hh,p',g1,g2⟩:=hOwnedK b hO;have:=H1.inj _ _ _ _ b ho g1 hb g2;simp only [xV] at hh;omega
  cases hp:fs.pure with
  | true=>exact ⟨fun _=>True,fun j c hj=>let ⟨u,e1,e2⟩:=s2 j c hj; ⟨u,e1,e2.mono (fun b hb=>⟨trivial,hsharp b hb⟩)⟩,by simp,fun _ _=>trivial⟩
  | false=>
   have hno:(rest.map (poi fun n' _=>decide (H0<=n'))).any oF=false:=by
    rcases hpv with h|h
    ·rw [hp] at h; simp at h
    ·rw [xt];intro c hcm;simp only [cJ] at hcm;obtain ⟨c0,hc0,rfl⟩:=hcm;have:=cq.1 h c0 hc0;rcases jH (fun n' _=>decide (H0<=n')) c0 with h|⟨h,_⟩
     ·rw [h]; simp [oF,lh]
     ·rw [h]; simpa using this
   refine ⟨X.S st1.roots m1,fun j c hj=>let ⟨u,e1,e2⟩:=s2 j c hj; ⟨u,e1,e2.mono (fun b hb=>⟨?_,hsharp b hb⟩)⟩,fun _ b hb=>hb,fun _ h=>h⟩;rcases hb with hb|⟨hb,_⟩
   ·exact hb
   ·rw [hno] at hb; simp at hb
 have hdoes:=hcon w S mc us (by omega) (by
  intro i c hi;have hil:i < fs.own.length:=by have:=(cd.1 hi).1; omega
  have hui:∃ u,us[i]?=some u:=⟨us[i]'(by omega),by simp⟩;obtain ⟨u,hu⟩:=hui;cases hf:fs.own[i]? with
  | none=>simp at hf; omega
  | some b=>
   cases b with
   | true=>
    obtain ⟨c0,e1,e2⟩:=IG i c hi hf;have huo:=p5 i u hf hu;have hlv:=v3 _ _ _ e1 huo;obtain ⟨dd,hd⟩:=Ry (w:=w) (R:=fun n=>st1.roots (H0+n)) (S:=X.S st1.roots m1) (m:=fun n=>m1 (H0+n)) hlv (fun n v hn=>hhands n v hn);have hh:hOf H0 os (fR fs.own i)=H0+hOf 0 os (fR fs.own i):=by have:=Da H0 os 0 (fR fs.own i); simpa using this
    have e3:j4 (fun n=>st1.roots (H0+n)) (hOf 0 os (fR fs.own i)) c0=c:=by
     rw [e2,hh];cases c0<;>simp [j4,nf]
    rw [e3] at hd;refine ⟨u,dd,hu,?_⟩;rw [xN,hf,nk];refine av (fun b _ hb=>⟨⟨hS3 b hb,fun hO=>hb.2 (hOwned1 b hO)⟩,rfl⟩) dd (fun _ _ _ h=>h) (fun _ _ _ _ _ _=>rfl) (fun _ q _=>?_) hd;have e4:nm i q=(H0+(gU (hOf 0 os (fR fs.own i)) c0 q).1,(gU (hOf 0 os (fR fs.own i)) c0 q).2):=by
     have e5:os[fR fs.own i]?=some c0:=e1;simp only [nm,e5,nk,hh];cases c0<;>cases q<;>simp [gU,nf]
    simp only [cO,mc,e4];rfl
   | false=>
    obtain ⟨u',e1,dd,e2⟩:=hS1 _ c (i3 i c hi hf);have:=p6 i u hf hu;rw [this] at e1;cases e1;refine ⟨u,dd,hu,?_⟩;rw [xN,hf,nk];exact av (fun b _ hb=>⟨hb,rfl⟩) dd (fun _ _ _ h=>h) (fun h=>by simp at h) (fun h=>by simp at h) e2) hinj
 refine A9 hop hdoes hrun ?_;rintro u w' ⟨mr,d0,q1,q2,q3,q4⟩;rw [hdst];obtain ⟨h1,hd1⟩:=pI H1 d;have hon:=rh H1 hdH;have hroots:∀ n,n≠d->(st1.fresh d).roots n=st1.roots n:=fun n hn=>Hk hn;have hks:∀ h∈List.range' H0 (os.flatMap bo).length,h≠d:=by
  intro h hh;simp only [xV] at hh;omega
 have hcore:∀ own:Bool,(own=false->∀ q,¬ ak r q)->ar X (fun n p=>if n=d/\own=true then mr p else m1 n p)
   {tmps:=((st1.fresh d).tmps.map (poi fun n' _=>decide (H0<=n'))).set d (kr 3 d [] r),roots:=fun n=>if n=d/\own=true then r else if n∈List.range' H0 (os.flatMap bo).length then .dead else (st1.fresh d).roots n } (a.put (some d) u) w':=by
  intro own hno;refine za h1 (d:=d) (ks:=List.range' H0 (os.flatMap bo).length) (own:=own) (r:=r) (u:=u) (w':=w') (mr:=mr) (Sr:=fun b=>((fs.pure=false/\(S b∨aI (R0 fs.own cs) mc b))∨w.heap.size<=b)/\¬ iR r mr b) (Kc:=aI (R0 fs.own cs) mc) (tmps0:=(st1.fresh d).tmps.map (poi fun n' _=>decide (H0<=n')))
   (fun _=>hd1) (fun _ hin=>hks d hin rfl) hno q1 ?_ q2 q3 ?_ q4 (by simp) ?_
  ·rintro b _ ⟨e2,e3⟩;refine ⟨fun hlt=>?_,e3⟩;rcases e2 with ⟨e1,e2|e2⟩|e2
   ·exact .inl ⟨hon.S b hlt (hS2 e1 b e2),fun hO=>(hS2 e1 b e2).2 (hOwned1 b hO)⟩
   ·exact .inr e2
   ·omega
  ·intro b hb;obtain ⟨h,hh,p,g1,g2⟩:=hOwnedK b hb;exact ⟨h,hh,p,by rw [hroots h (hks h hh)]; exact g1,g2⟩
  ·intro t c0 ht;simp only [cu,cj] at ht;obtain ⟨c1,h0,rfl⟩:=ht;rcases jH (fun n' _=>decide (H0<=n')) c1 with h|⟨h,hm⟩
   ·exact .inl h
   ·rw [h];refine .inr ⟨h0,fun v uv dd ho hl=>?_⟩;obtain ⟨n,p,e1,e2⟩:=iC dd 3 c1 v hm ho;refine ⟨n,p,e1,?_,fun _=>by rintro rfl; exact yU e1 hl hd1⟩;simp only [decide_eq_false_iff_not] at e2;simp only [xV];omega
 have hclr:∀ n,(if n∈List.range' H0 (os.flatMap bo).length then C.dead else (st1.fresh d).roots n)=clr (os.flatMap bo).length (st1.fresh d).roots n:=by
  intro n;unfold clr;have:n∈List.range' H0 (os.flatMap bo).length↔(H0<=n/\n < H0+(os.flatMap bo).length):=by
   simp only [xV];constructor
   ·rintro ⟨i,h1,h2⟩; omega
   ·rintro ⟨h1,h2⟩; exact ⟨n - H0,by omega,by omega⟩
  by_cases h:n∈List.range' H0 (os.flatMap bo).length
  ·rw [if_pos h,if_pos (this.1 h)]
  ·rw [if_neg h,if_neg (fun hh=>h (this.2 hh))]
 have hkeepV:∀ (mz:Nat->aq->Value) (sz:St),(∀ n,n≠d->∀ q,mz n q=m1 n q)->(∀ n,n < H0->n≠d->sz.roots n=st1.roots n)->G3 (some d) m st w mz sz w':=by
  intro mz sz e1 e2 n hn hnd ho ho';have hnd':n≠d:=fun h=>hnd (by rw [h]);have em:m1 n []=m n []:=hm1 n [] hn;refine ⟨by rw [e1 n hnd',em],fun b hb=>?_⟩;rw [e2 n hn hnd'] at ho';refine q4.block b (H.lt ho hb) (fun hO=>?_);obtain ⟨h,hh,p,g1,g2⟩:=hOwnedK b hO;have:=(H1.inj _ _ _ _ b ho' g1 (by rw [em]; exact hb) g2).1;simp only [xV] at hh;omega
 cases hod:Cn 3 r with
 | true=>
  have:=hcore true (by simp);have e:(fun n=>if n=d/\true=true then r else if n∈List.range' H0 (os.flatMap bo).length then C.dead else (st1.fresh d).roots n)=upd (clr (os.flatMap bo).length (st1.fresh d).roots) d r:=by
   funext n
   simp only [upd,hclr,and_true]
  rw [e] at this;refine ⟨_,this,hkeepV _ _ (fun n hn q=>by simp [hn]) (fun n hn hnd=>?_)⟩;have:¬ (H0<=n/\n < H0+(os.flatMap bo).length):=by omega
  show upd (clr (os.flatMap bo).length (st1.fresh d).roots) d r n=_;rw [aN hnd];unfold clr;rw [if_neg this,hroots n hnd]
 | false=>
  have:=hcore false (fun _ q=>NU 3 hod);have e:(fun n=>if n=d/\false=true then r else if n∈List.range' H0 (os.flatMap bo).length then C.dead else (st1.fresh d).roots n)=clr (os.flatMap bo).length (st1.fresh d).roots:=by
   funext n
   simp only [hclr,cR,and_false,if_false]
  rw [e] at this;refine ⟨_,this,hkeepV _ _ (fun n hn q=>by simp [hn]) (fun n hn hnd=>?_)⟩;have:¬ (H0<=n/\n < H0+(os.flatMap bo).length):=by omega
  show clr (os.flatMap bo).length (st1.fresh d).roots n=_;unfold clr;rw [if_neg this,hroots n hnd]
def QE (H:ar X m st a w) {n lo len:Nat} {cp:Option Nat} {u:Value} (hr:aB X m st w (.pal n [] lo len cp) u) (ho:qR (st.roots n)=true) :
  ∃ x k,u=.slice x len k/\(len=0∨∃ b o arr e,x=some ⟨b,o,none⟩/\w.heap[b]?=some (.cells arr e (0,0))/\arr.size≠0/\blk (m n [])=some b):=by
 obtain ⟨nl,es,cap',rows,a',k,a2,k',g1,g2,g3,rfl,g5,g6,g7,g8,g9⟩:=ei hr;refine ⟨a2,k',rfl,?_⟩;by_cases hl:len=0
 ·exact .inl hl
 right;rcases g9 with g9|⟨b,off,rfl,rfl⟩
 ·omega
 obtain ⟨u0,d0,hr0⟩:=H.root n;simp only [C.at,cb] at g1;rw [g1] at hr0 ho;have hes:es≠0:=by simpa [qR] using ho
 cases d0 with
 | zero=>exact hr0.elim
 | succ d0=>
  obtain ⟨a3,k3,h1,h2,h3,h4,hz,h5,h6,h7⟩:=hr0;have h6':=h6 rfl;rw [h6',g2] at h1;simp only [Value.slice.injEq] at h1;obtain ⟨rfl,_,rfl⟩:=h1;have hk:k≠0:=by omega
  rcases h7 with h7|h7|⟨b',off',arr,elem,frz,f1,f2,f3,f4,f5⟩
  ·omega
  ·simp at h7
  ·simp only [cb,Addr.mk.injEq,and_true] at f1;obtain ⟨rfl,rfl⟩:=f1;obtain ⟨rfl,f4b⟩:=f4 rfl;refine ⟨b,_,arr,elem,rfl,f2,?_,by rw [g2]; simp [blk,hk]⟩;have:0 < k * es:=Nat.mul_pos (by omega) (by omega);omega
theorem Ys {E:Env} (hG:GOk P E) (H:ar X m st a w) {o:Oper} {c:Call} (hop:o.op=.call c) {d f:Nat} (hdst:o.dst=some d) {args:List C} (hc:gi st c=some (f,args)) {fs:FnS} (hfs:E.G d f=some fs) (hp:fs.peek=true)
  {st':St} (hx:JK d args st=some st') {Qx:Exit->Act->World->Prop} :
  o.wp P a w (fun a' w'=>∃ m',ar X m' st' a' w') Qx:=by
 obtain ⟨us,hl,hrel,hrun⟩:=tn (P:=P) (ty:=o.type) H hc;unfold JK at hx;split at hx
 case h_2=>simp at hx
 rename_i n lo len cp n' lo' len' cp';split at hx
 case h_2=>simp at hx
 rename_i e1 e2;split at hx
 case isFalse=>simp at hx
 rename_i hne;obtain ⟨hne,hz1,hz2⟩:=hne;simp only [cb] at hx;subst hx;obtain ⟨u1,a1,r1⟩:=hrel 0 _ rfl;obtain ⟨u2,a2,r2⟩:=hrel 1 _ rfl;obtain ⟨x,k,rfl,q1⟩:=QE H r1 e1;obtain ⟨y,k',rfl,q2⟩:=QE H r2 e2;obtain rfl:us=[.slice x len k,.slice y len' k']:=by
  match us,hl with
  | [v1,v2],_=>simp only [cr,nn,cb] at a1 a2; rw [a1,a2]
 have hrun2:(callFunc f #[.slice x len k,.slice y len' k']).run P w=.ok (.value (.bool false)) w:=by
  refine (hG.1 d f fs hfs).peek hp w x y len k len' k' ?_;rcases q1 with q1|⟨b1,o1,arr1,t1,g1,g2,g3,g4⟩
  ·exact (hz1 q1).elim
  rcases q2 with q2|⟨b2,o2,arr2,t2,f1,f2,f3,f4⟩
  ·exact (hz2 q2).elim
  refine (⟨b1,o1,arr1,t1,b2,o2,arr2,t2,g1,f1,?_,g2,f2,f3⟩);rintro rfl;have hown:∀ {n},qR (st.roots n)=true->ak (st.roots n) []:=by
   intro n h;unfold qR at h;split at h
   ·rename_i e; rw [e]; rfl
   ·simp at h
  exact hne (H.inj n [] n' [] b1 (hown e1) (hown e2) g4 f4).1
 refine A9 hop (Q:=fun u w'=>u=.bool false/\w'=w) (.inr ⟨_,_,hrun2,rfl,rfl⟩) hrun ?_;rintro u w' ⟨rfl,rfl⟩;rw [hdst];exact ⟨m,H.put (some d) (k:=1) rfl⟩
end
def PE (d es:Nat) (te:TI) (l c:C) (st:St):Option St:=
 match vP l,vP c with
 | some n,some n'=>if n=n'/\es≠0/\n * (te.bytes - 1+1)<=140737488355328 then
   some { tmps:=(st.fresh d).tmps.set d (.pal d [] 0 n none),roots:=upd (st.fresh d).roots d (.sl true none es none (List.replicate n (te.zero.map .val))) }
  else none
 | _,_=>none
def mkX (E:Env) (d:Nat) (t:TypeId) (l c:C) (st:St):Option St:=
 match E.T t with
 | some ti=>match ti.kind with
  | .slice e es=>match E.T e with
   | some te=>PE d es te l c st
   | none=>none
  | _=>none
 | none=>none
section
variable {X:Ctx} {m:Nat->aq->Value} {st:St} {a:Act} {w:World} {P:Program}
def RN {c:C} {u:Value} (h:aB X m st w c u) {n:Nat} (hn:vP c=some n):∃ k,u=.int k (n:Int):=by
 unfold vP at hn;split at hn
 ·rename_i k v;split at hn
  ·simp only [cb] at hn;obtain rfl:=h.of_val;exact ⟨k,by congr 1; omega⟩
  ·simp at hn
 ·simp at hn
def YL {E:Env} (hT:TOk P E) (H:ar X m st a w) {t:Nat} {ti te:TI} (hti:eS P t ti) {e es:Nat} (hkind:ti.kind=.slice e es) (hte:eS P e te) {l c:C} {ul uc:Value} (hl:aB X m st w l ul) (hc:aB X m st w c uc) {d:Nat} {st':St} (hp:PE d es te l c st=some st') :
  ∃ u w',(Instr.makeSlice t ul uc).run P w=.ok u w'/\∃ m',ar X m' st' (a.put (some d) u) w':=by
 unfold PE at hp;split at hp
 case h_2=>simp at hp
 rename_i n n' hn hn';split at hp
 case isFalse=>simp at hp
 rename_i hcc;obtain ⟨rfl,hes,hb⟩:=hcc;simp only [cb] at hp;subst hp;obtain ⟨kl,rfl⟩:=RN hl hn;obtain ⟨kc,rfl⟩:=RN hc hn';obtain ⟨dsc,hu,_,hkd⟩:=hti.und;rw [hkind] at hkd;obtain ⟨rfl,ie0,hie0,hiesz0⟩:=hkd;obtain ⟨i,hi,hi1,hi2,z,hzz,hzc⟩:=hte.info;rw [hi] at hie0;cases hie0;have hzs:z.cells.size=es:=by rw [<-xF,hzc,hte.zlen,<-hi1,hiesz0]
 have hbb:n * te.bytes<=140737488355328/\n<=140737488355328:=K3 hb;have hrun:=run_make (P:=P) w t e ie0 z hu hi hzz kl kc (n:Int) (n:Int) (by omega) (Int.le_refl _) (by
  rw [hi2,<-Int.natCast_mul,n8];have:=hbb.1;omega) (by have:=hbb.2; omega)
 simp only [cL] at hrun;obtain ⟨h1,hd⟩:=pI H d;refine ⟨_,_,hrun,?_⟩;obtain ⟨h2,h3⟩:=h1.newRoot (d:=d) hd (D:=1) (arr:=madeCells z.cells (n * ie0.size)) (elem:=e) (rows:=List.replicate n (te.zero.map .val)) (es:=es) (k:=n) (cap:=none) (re w _) rfl rfl rfl (by simp) (by simp only [maxLen]; omega) (by simp) (by
   intro row hr;rw [xb hr];simp [hte.zlen,<-hi1,hiesz0]) (by rw [size_madeCells,hiesz0]; exact cw _) (by
   intro i' j row c h1 h2;have hr:=xb (cg h1);have hik:i' < n:=by have:=(cd.1 h1).1; simpa using this
   subst hr;simp only [cu,cj] at h2;obtain ⟨vz,h2,rfl⟩:=h2;have hj:j < es:=by have:=(cd.1 h2).1; rw [hte.zlen,<-hi1,hiesz0] at this; exact this
   have hlt2:i' * es+j < n * es:=by
    have:(i'+1) * es<=n * es:=nu _ (by omega);rw [cI] at this; omega
   refine ⟨vz,?_,bG.val (hte.zone vz (cg h2))⟩;have hlt3:j < z.cells.size:=by rw [hzs]; exact hj
   have hz:z.cells[j]?=some vz:=by rw [<-xM,hzc]; exact h2
   have hzj:z.cells[j]! = vz:=by rw [getElem!_def,hz]
   rw [madeCells,adN,adO,if_pos (by rw [hiesz0]; exact hlt2)];simp only [cx,cb];rw [hzs,n8,adm,adn hj,hzj])
 refine ⟨_,h2.putTmp d ?_⟩;have hp:=m6 (X:=X) (w:=w.alloc (.cells (madeCells z.cells (n * ie0.size)) e)) (st:={ (st.fresh d) with roots:=upd (st.fresh d).roots d (.sl true none es none (List.replicate n (te.zero.map .val))) }) (m:=kV m d (.slice (some ⟨w.heap.size,0,none⟩) (List.replicate n (te.zero.map C.val)).length n)) (d:=d) (aC _ _ _) (ad:=some ⟨w.heap.size,0,none⟩) (k:=n) (br _ _ _) (by simp) (.inr ⟨_,_,rfl⟩);simpa using hp
end
def TH (ks:List Nat) (tr:Nat->C) (mk:Nat->aq->Value) (b:Nat):Prop:=∃ n∈ks,∃ p,ak (tr n) p/\blk (mk n p)=some b
def aaq (R tr:Nat->C) (m mk:Nat->aq->Value) (n:Nat):Prop:=∃ nl es cap rows nl' cap' rows',R n=.sl true nl es cap rows/\tr n=.sl true nl' es cap' rows'/\rows'.length=rows.length/\mk n []=m n []
def qt (ks:List Nat) (tr R:Nat->C):Nat->C:=fun n=>if n∈ks then tr n else R n
section
variable {X:Ctx} {m:Nat->aq->Value} {st:St} {a:Act} {w:World} {P:Program}
def OW (H:ar X m st a w) {d:Nat} {ks:List Nat} {r:C} {u:Value} {w':World} {Sr Kc:Nat->Prop} {tr:Nat->C} {mk:Nat->aq->Value}
  (hr:AX w' Sr r u)
  (hroot:∀ n∈ks,∃ uu dd,rel w' Sr L0 (mk n) true dd [] (tr n) uu) (hlike:∀ n∈ks,aaq st.roots tr m mk n)
  (hSr:∀ b,b < w'.heap.size->Sr b->(b < w.heap.size->(X.S st.roots m b/\¬ Kc b)∨Kc b)/\¬ TH ks tr mk b)
  (hinj:∀ n∈ks,∀ n'∈ks,∀ q q' b,ak (tr n) q->ak (tr n') q'->blk (mk n q)=some b->blk (mk n' q')=some b->n=n'/\q=q')
  (hown:∀ b,TH ks tr mk b->w.heap.size<=b∨Kc b)
  (hK:∀ b,Kc b->∃ h∈ks,∃ p,ak (st.roots h) p/\blk (m h p)=some b) (hfr:FrK w Kc w') :
  ∃ m',ar X m' { tmps:=(st.tmps.map (poi (uS ks))).set d r,roots:=qt ks tr st.roots } (a.put (some d) u) w':=by
 obtain ⟨m',hm'⟩:∃ m':Nat->aq->Value,m'=fun n p=>if n∈ks then mk n p else m n p:=⟨_,rfl⟩
 have Rk:∀ n,n∈ks->qt ks tr st.roots n=tr n:=fun n h=>by simp [qt,h]
 have Rn:∀ n,n∉ks->qt ks tr st.roots n=st.roots n:=fun n h=>by simp [qt,h]
 have Mk:∀ n p,n∈ks->m' n p=mk n p:=fun n p h=>by simp [hm',h]
 have Mn:∀ n p,n∉ks->m' n p=m n p:=fun n p h=>by simp [hm',h]
 have cases_own:∀ n p b,ak (qt ks tr st.roots n) p->blk (m' n p)=some b->(n∈ks/\ak (tr n) p/\blk (mk n p)=some b)∨(n∉ks/\ak (st.roots n) p/\blk (m n p)=some b):=by
  intro n p b ho hb;by_cases h:n∈ks
  ·rw [Rk n h] at ho; rw [Mk n p h] at hb; exact .inl ⟨h,ho,hb⟩
  ·rw [Rn n h] at ho; rw [Mn n p h] at hb; exact .inr ⟨h,ho,hb⟩
 have old_lt:∀ n p b,ak (st.roots n) p->blk (m n p)=some b->b < w.heap.size:=fun n p b ho hb=>H.lt ho hb;have old_notK:∀ n p b,n∉ks->ak (st.roots n) p->blk (m n p)=some b->¬ Kc b:=by
  intro n p b hn ho hb hk;obtain ⟨h,hh,p',ho',hb'⟩:=hK b hk;have:=H.inj _ _ _ _ b ho ho' hb hb';exact hn (this.1 ▸ hh)
 have new_split:∀ n p b,n∉ks->ak (st.roots n) p->blk (m n p)=some b->¬ TH ks tr mk b:=by
  intro n p b hn ho hb hr1;rcases hown b hr1 with h|h
  ·have:=old_lt n p b ho hb; omega
  ·exact old_notK n p b hn ho hb h
 have hS:∀ b,b < w.heap.size->X.S st.roots m b->X.S (qt ks tr st.roots) m' b/\w'.heap[b]?=w.heap[b]?:=by
  intro b hlt hs;have hnk:¬ Kc b:=by
   intro hk;obtain ⟨h,_,p,ho,hb⟩:=hK b hk;exact hs.2 ⟨h,p,ho,hb⟩
  refine ⟨⟨hs.1,?_⟩,hfr.block b hlt hnk⟩;rintro ⟨n,p,ho,hb⟩;rcases cases_own n p b ho hb with ⟨h2,h3,h4⟩|⟨_,h3,h4⟩
  ·rcases hown b ⟨n,h2,p,h3,h4⟩ with h|h
   ·omega
   ·exact hnk h
  ·exact hs.2 ⟨n,p,h3,h4⟩
 have hSr':∀ b,b < w'.heap.size->Sr b->X.S (qt ks tr st.roots) m' b:=by
  intro b hlt hs;obtain ⟨h1,h2⟩:=hSr b hlt hs;by_cases hb:b < w.heap.size
  ·rcases h1 hb with h1|h1
   ·exact (hS b hb h1.1).1
   ·obtain ⟨h,_,p,ho,hbk⟩:=hK b h1;refine ⟨(H.own h p b ho hbk).elim .inr (fun hk=>.inl (X.kS b hk)),?_⟩;rintro ⟨n,p',ho',hbk'⟩;rcases cases_own n p' b ho' hbk' with ⟨h5,h3,h4⟩|⟨h5,h3,h4⟩
    ·exact h2 ⟨n,h5,p',h3,h4⟩
    ·exact old_notK n p' b h5 h3 h4 h1
  ·refine ⟨.inr (nA H.fr.size (by omega)),?_⟩;rintro ⟨n,p,ho,hbk⟩;rcases cases_own n p b ho hbk with ⟨h5,h3,h4⟩|⟨_,h3,h4⟩
   ·exact h2 ⟨n,h5,p,h3,h4⟩
   ·exact hb (old_lt n p b h3 h4)
 have hLv:∀ v uu n p,v.place=some (n,p)->uS ks n p=false->Lv st.roots m v uu->Lv (qt ks tr st.roots) m' v uu:=by
  intro v uu n p hp hin hl;by_cases hn:n∈ks
  ·have hpn:p=[]:=by
    simp only [uS,adT,hn,decide_true,xj,Bool.not_eq_false'] at hin;simpa using hin
   subst hpn;obtain ⟨nl,es,cap,rows,nl',cap',rows',e1,e2,e3,e4⟩:=hlike n hn;cases v with
   | pref n0 p0 i j=>
    simp only [C.place,cb,cz] at hp;obtain ⟨rfl,rfl⟩:=hp;obtain ⟨nl2,es2,cap2,rows2,b,off,k,g1,g2,g3⟩:=hl;rw [e1] at g1;simp only [C.at,cb,C.sl.injEq,true_and] at g1;obtain ⟨rfl,rfl,rfl,rfl⟩:=g1;exact ⟨nl',es,cap',rows',b,off,k,by rw [Rk _ hn,e2]; rfl,by rw [Mk _ _ hn,e4,e3]; exact g2,g3⟩
   | pal n0 p0 lo len cp=>
    simp only [C.place,cb,cz] at hp;obtain ⟨rfl,rfl⟩:=hp;obtain ⟨nl2,es2,cap2,rows2,a0,k,a',k',g1,g2,g3,g4⟩:=hl;rw [e1] at g1;simp only [C.at,cb,C.sl.injEq,true_and] at g1;obtain ⟨rfl,rfl,rfl,rfl⟩:=g1;exact ⟨nl',es,cap',rows',a0,k,a',k',by rw [Rk _ hn,e2]; rfl,by rw [Mk _ _ hn,e4,e3]; exact g2,by rw [e3]; exact g3,g4⟩
   | _=>exact hl.elim
  ·refine kH hp (Mn n p hn) ?_ hl;intro nl es cap rows he;exact ⟨cap,rows,by rw [Rn n hn]; exact he,rfl⟩
 have base:ar X m' { tmps:=st.tmps.map (poi (uS ks)),roots:=qt ks tr st.roots } a w':=by
  refine ⟨by simp [H.len],?_,?_,?_,?_,?_,H.df⟩
  ·intro t c htc;simp only [cu,cj] at htc;obtain ⟨c0,h0,rfl⟩:=htc;obtain ⟨u',d',e1,e2⟩:=H.tmp t c0 h0;rcases jH (uS ks) c0 with e|⟨e,hm⟩
   ·rw [e]; exact ⟨u',1,e1,trivial⟩
   ·rw [e];refine ⟨u',d',e1,av hS d' ?_ (fun h=>by simp at h) (fun h=>by simp at h) e2⟩;intro v uv ho hlv;obtain ⟨n,p,e3,e4⟩:=iC d' 3 c0 v hm ho;exact hLv v uv n p e3 e4 hlv
  ·intro n;by_cases h:n∈ks
   ·obtain ⟨uu,dd,h1⟩:=hroot n h;refine ⟨uu,dd,?_⟩;simp only [Rk n h];exact av (fun b hlt hs=>⟨hSr' b hlt hs,rfl⟩) dd (fun _ _ _ h=>h) (fun _ _ _ _ _ _=>rfl) (fun _ q _=>by simp [Mk n _ h]) h1
   ·obtain ⟨u',d',hr'⟩:=H.root n;refine ⟨u',d',?_⟩;simp only [Rn n h];refine av hS d' (fun _ _ _ h=>h) ?_ ?_ hr'
    ·intro _ q b ho hb hlt;simp only [cO] at hb;exact hfr.block b hlt (old_notK n q b h ho hb)
    ·intro _ q ho;simp only [cO];exact Mn n q h
  ·intro n p n' p' b ho ho' hb hb';rcases cases_own n p b ho hb with ⟨h2,h3,h4⟩|⟨h2,h3,h4⟩<;>rcases cases_own n' p' b ho' hb' with ⟨g2,g3,g4⟩|⟨g2,g3,g4⟩
   ·exact hinj n h2 n' g2 p p' b h3 g3 h4 g4
   ·exact (new_split n' p' b g2 g3 g4 ⟨n,h2,p,h3,h4⟩).elim
   ·exact (new_split n p b h2 h3 h4 ⟨n',g2,p',g3,g4⟩).elim
   ·exact H.inj _ _ _ _ b h3 g3 h4 g4
  ·intro n p b ho hb;rcases cases_own n p b ho hb with ⟨h2,h3,h4⟩|⟨h2,h3,h4⟩
   ·rcases hown b ⟨n,h2,p,h3,h4⟩ with h|h
    ·exact .inl (nA H.fr.size h)
    ·obtain ⟨x,_,p',ho',hb'⟩:=hK b h;exact H.own x p' b ho' hb'
   ·exact H.own n p b h3 h4
  ·refine ⟨hfr.os.trans H.fr.os,hfr.tape.trans H.fr.tape,hfr.output.trans H.fr.output,nA H.fr.drawn hfr.drawn,nA H.fr.size hfr.size,?_⟩;intro b hlt hk;have hlt':b < w.heap.size:=adg hlt H.fr.size;rw [hfr.block b hlt' ?_]
   ·exact H.fr.block b hlt hk
   ·intro hkc;obtain ⟨x,_,p,ho,hb⟩:=hK b hkc;rcases H.own x p b ho hb with h|h
    ·omega
    ·exact hk h
 obtain ⟨dr,hr⟩:=hr;refine ⟨m',base.putTmp d (c:=r) (u:=u) ⟨dr,?_⟩⟩;exact av (fun b hlt hs=>⟨hSr' b hlt hs,rfl⟩) dr (fun _ _ _ h=>h.elim) (fun h=>by simp at h) (fun h=>by simp at h) hr
def UM {c:C} (h:PJ c=true):∃ nl es row,c=.sl true nl es (some 1) [row]:=by
 unfold PJ at h;split at h
 ·exact ⟨_,_,_,rfl⟩
 ·cases h
def UW {c c':C} {n:Nat} (h:PF c n=some c'):∃ nl es cap rows,c=.sl true nl es cap rows/\c'=.sl true none es none rows/\rows.length=n:=by
 unfold PF at h;split at h
 ·split at h
  ·rename_i hl;simp only [cb] at h;exact ⟨_,_,_,_,rfl,h.symm,hl⟩
  ·cases h
 ·cases h
def yf {c:C} {es:Nat} {x:Option Nat} (h:dH c=some (es,x)):∃ nl cap rows,c=.sl true nl es cap rows/\((x=none/\cap=some 1/\∃ row,rows=[row])∨(x=some rows.length/\cap=none/\nl=none)):=by
 unfold dH at h;split at h
 ·simp only [cb,cz] at h;obtain ⟨rfl,rfl⟩:=h;exact ⟨_,_,_,rfl,.inl ⟨rfl,rfl,_,rfl⟩⟩
 ·simp only [cb,cz] at h;obtain ⟨rfl,rfl⟩:=h;exact ⟨_,_,_,rfl,.inr ⟨rfl,rfl,rfl⟩⟩
 ·cases h
def MB (st:St) (a:C) (n:Nat) (c:C):Prop:=
 (∃ nl es row,a=.pref n [] 0 0/\st.roots n=.sl true nl es (some 1) [row]/\c=.sl true nl es (some 1) [row]) ∨
 (∃ nl es cap rows,a=.pal n [] 0 rows.length none/\st.roots n=.sl true nl es cap rows/\c=.sl true none es none rows)
def PV {a:C} {n:Nat} {c:C} (h:JJ st a=some (n,c)):MB st a n c:=by
 unfold JJ at h;split at h
 ·rename_i n';split at h
  ·rename_i hv;simp only [cb,cz] at h;obtain ⟨rfl,rfl⟩:=h;obtain ⟨nl,es,row,e⟩:=UM hv;exact .inl ⟨nl,es,row,rfl,e,e⟩
  ·cases h
 ·split at h
  ·rename_i c' hc;simp only [cb,cz] at h;obtain ⟨rfl,rfl⟩:=h;obtain ⟨nl,es,cap,rows,e1,e2,rfl⟩:=UW hc;exact .inr ⟨nl,es,cap,rows,rfl,e1,e2⟩
  ·cases h
 ·cases h
def MB.own {a:C} {n:Nat} {c:C} (h:MB st a n c) (q:aq):ak c q↔ak (st.roots n) q:=by
 rcases h with ⟨nl,es,row,_,e1,e2⟩|⟨nl,es,cap,rows,_,e1,e2⟩
 ·rw [e1,e2]
 ·rw [e1,e2];cases q with
  | nil=>exact ⟨fun _=>rfl,fun _=>rfl⟩
  | cons x q=>exact xW
def QW {S:Nat->Prop} {L:C->Value->Prop} {o:Bool} {mm:aq->Value} {d:Nat} {p:aq} {own:Bool} {nl:Option Bool} {es:Nat} {cap:Option Nat} {rows:List (List C)} {u:Value} (h:rel w S L mm o d p (.sl own nl es cap rows) u):rel w S L mm o d p (.sl own none es none rows) u:=by
 cases d with
 | zero=>exact h.elim
 | succ d=>
  obtain ⟨a,k,h1,h2,h3,h4,h5,h6⟩:=h;exact ⟨a,k,h1,h2,h3,(fun c hc=>by cases hc),⟨(fun b hb=>by cases hb),h5.2⟩,h6⟩
def Fg:∀ {k:Nat} {args:List C} {ns:List (Nat × C)},zT st k args=some ns->ns.length=k/\k<=args.length/\(ns.map Prod.fst).Nodup/\∀ (i n:Nat) (c:C),ns[i]?=some (n,c)->∃ a,args[i]?=some a/\MB st a n c:=by
 intro k
 induction k with
 | zero=>intro args ns h; simp only [zT,cb] at h; subst h; exact ⟨rfl,by omega,List.nodup_nil,by simp⟩
 | succ k ih=>
  intro args ns h;cases args with
  | nil=>simp [zT] at h
  | cons a l=>
   simp only [zT] at h;split at h
   case h_2=>cases h
   rename_i x hx;split at h
   case h_2=>cases h
   rename_i ns' hns;split at h
   case isTrue=>cases h
   rename_i hnc;simp only [cb] at h;subst h;obtain ⟨e1,e2,e3,e4⟩:=ih hns;refine ⟨by simp [e1],by simp; omega,ado.2 ⟨by simpa using hnc,e3⟩,?_⟩;intro i n' c' hi;cases i with
   | zero=>
    simp only [cr,cb] at hi;subst hi;exact ⟨a,rfl,PV hx⟩
   | succ i=>simpa using e4 i n' c' (by simpa using hi)
def Yv:∀ {ns:List Nat} {ls:List C} {R:Nat->C},ns.Nodup->ls.length=ns.length->AE ns ls R=qt ns (fun n=>(ls[ns.idxOf n]?).getD .dead) R:=by
 intro ns
 induction ns with
 | nil=>intro ls R _ _; funext x; cases ls<;>simp [AE,qt]
 | cons n ns ih=>
  intro ls R hn hl;cases ls with
  | nil=>simp at hl
  | cons l ls=>
   obtain ⟨h1,h2⟩:=ado.1 hn;simp only [AE];rw [ih h2 (by simpa using hl)]
   funext x
   by_cases e:x=n
   ·subst e; simp [upd,qt]
   ·have e':¬ n=x:=fun h=>e h.symm;have e2:(n == x)=false:=by simpa using e'
    simp [upd,qt,e,List.idxOf_cons,e2]
def Om {c v:C} (hc:Bh c=true):∀ (d:Nat),¬ occ d c v:=by
 intro d h;cases d with
 | zero=>exact h
 | succ d=>
  cases c with
  | agg cs=>
   obtain ⟨c',hm,ho⟩:=h;simp only [Bh,cq] at hc;exact Ag (hc c' hm) d ho
  | dead=>exact h
  | val _=>exact h
  | sl _ _ _ _ _=>exact h
  | iref _ _ _ _=>exact h
  | tup cs=>simp [Bh,C.cellOk] at hc
  | pref _ _ _ _=>simp [Bh,C.cellOk] at hc
  | pal _ _ _ _ _=>simp [Bh,C.cellOk] at hc
  | clo f cs=>exact Ag (c:=.clo f cs) hc (d+1) h
def aan (P:Program) (f:FuncId) (k:Nat) (cs:List C) (r:C) (ls:List C) (g:(Nat->Prop)->Nat->Prop):Prop:=
 ∀ (w:World) (S:Nat->Prop) (m:Nat->aq->Value) (us:List Value),us.length=cs.length ->
  (∀ (i:Nat) (c:C),cs[i]?=some c->k<=i->∃ u d,us[i]?=some u/\rel w (fun b=>S b/\¬ aI (Rl k cs) m b) L0 dm false d [] c u) ->
  (∀ (i:Nat) (c:C),cs[i]?=some c->i < k->∃ u d,us[i]?=some u/\Hd c u (m i [])/\rel w (fun b=>S b/\¬ aI (Rl k cs) m b) L0 (m i) true d [] c (m i [])) ->
  Inj (Rl k cs) m ->
  Ho P f us w fun u w'=>∃ mk:Nat->aq->Value,
   (∃ d,rel w' (fun b=>(g S b∨aI (Rl k cs) m b∨w.heap.size<=b)/\¬ aI (Rl k ls) mk b) L0 dm false d [] r u) ∧
   (∀ (i:Nat) (c:C),ls[i]?=some c->mk i []=m i []/\∃ uu d,rel w' (fun b=>(g S b∨aI (Rl k cs) m b∨w.heap.size<=b)/\¬ aI (Rl k ls) mk b) L0 (mk i) true d [] c uu) ∧
   Inj (Rl k ls) mk/\(∀ b,aI (Rl k ls) mk b->w.heap.size<=b∨aI (Rl k cs) m b)/\FrK w (aI (Rl k cs) m) w'
def X8 (H:ar X m st a w) {o:Oper} {c:Call} (hop:o.op=.call c) {d f:Nat} (hdst:o.dst=some d) {args:List C} (hc:gi st c=some (f,args)) {K:Nat} {ns:List (Nat × C)} (hns:zT st K args=some ns)
  {rs:List C} (hrl:rs.length=args.length - K) {S:Nat->Prop} (hXS:∀ b,X.S st.roots m b->S b) (hSn:∀ b,S b->∀ n∈ns.map Prod.fst,∀ p,ak (st.roots n) p->blk (m n p)≠some b)
  (hrest:∀ us:List Value,us.length=args.length->(∀ (j:Nat) (c:C),args[j]?=some c->∃ u,us[j]?=some u/\aB X m st w c u)->∀ (i:Nat) (c0:C),rs[i]?=some c0->∃ u,us[K+i]?=some u/\AX w S c0 u)
  {r:C} {ls:List C} {g:(Nat->Prop)->Nat->Prop} (hcon:aan P f K (ns.map Prod.snd++rs) r ls g) (hg:∀ b,g S b->X.S st.roots m b) (hsh:ls.map dH=ns.map (fun n=>dH n.2)) {Qx:Exit->Act->World->Prop} :
  o.wp P a w (fun a' w'=>∃ m',ar X m' { tmps:=(st.tmps.map (poi (uS (ns.map Prod.fst)))).set d r,roots:=AE (ns.map Prod.fst) ls st.roots } a' w') Qx:=by
 obtain ⟨us,hl,hrel,hrun⟩:=tn (P:=P) (ty:=o.type) H hc;obtain ⟨n1,n2,n3,n4⟩:=Fg hns;obtain ⟨ks,hks⟩:∃ ks,ks=ns.map Prod.fst:=⟨_,rfl⟩;rw [<-hks] at n3 ⊢;have hkl:ks.length=K:=by rw [hks,cy,n1]
 have hll:ls.length=ks.length:=by have:=congrArg List.length hsh; rw [hkl,<-n1]; simpa using this
 rw [Yv n3 hll];obtain ⟨cs,hcs⟩:∃ cs,cs=ns.map Prod.snd++rs:=⟨_,rfl⟩;rw [<-hcs] at hcon;obtain ⟨mc,hmc⟩:∃ mc:Nat->aq->Value,mc=fun i=>m ((ks[i]?).getD 0):=⟨_,rfl⟩;have hget:∀ i,i < K->∃ n c a0,ks[i]?=some n/\cs[i]?=some c/\ns[i]?=some (n,c)/\args[i]?=some a0/\MB st a0 n c/\mc i=m n:=by
  intro i hi;have e:ns[i]?=some (ns[i].1,ns[i].2):=by simp [n1,hi]
  have e':ks[i]?=some ns[i].1:=(congrArg (fun l:List Nat=>l[i]?) hks).trans (by rw [cu,e]; rfl);obtain ⟨a0,g1,g2⟩:=n4 i _ _ e;refine ⟨ns[i].1,ns[i].2,a0,e',?_,e,g1,g2,by rw [hmc]; simp [e']⟩;rw [hcs,cE (by simpa [n1] using hi),cu,e]; rfl
 have hRl:∀ i p,ak (Rl K cs i) p->i < K/\∃ n,ks[i]?=some n/\ak (st.roots n) p/\mc i=m n:=by
  intro i p ho;unfold Rl at ho;split at ho
  ·rename_i hi;obtain ⟨n,c,a0,e1,e2,_,_,e3,e4⟩:=hget i hi;rw [e2] at ho;exact ⟨hi,n,e1,(e3.own p).1 ho,e4⟩
  ·exact (aM ho).elim
 have hKc:∀ b,aI (Rl K cs) mc b->∃ n∈ks,∃ p,ak (st.roots n) p/\blk (m n p)=some b:=by
  rintro b ⟨i,p,ho,hb⟩;obtain ⟨_,n,e1,e2,e3⟩:=hRl i p ho;rw [e3] at hb;exact ⟨n,cg e1,p,e2,hb⟩
 have hnot:∀ b,X.S st.roots m b->¬ aI (Rl K cs) mc b:=by
  intro b hs ho;obtain ⟨n,_,p,h1,h2⟩:=hKc b ho;exact hs.2 ⟨n,p,h1,h2⟩
 have hS0:∀ b,b < w.heap.size->X.S st.roots m b->(S b/\¬ aI (Rl K cs) mc b)/\w.heap[b]?=w.heap[b]?:=fun b _ hs=>⟨⟨hXS b hs,hnot b hs⟩,rfl⟩;have hnotS:∀ b,S b->¬ aI (Rl K cs) mc b:=by
  intro b hs ho;obtain ⟨n,hn,p,h1,h2⟩:=hKc b ho;exact hSn b hs n (by rw [<-hks]; exact hn) p h1 h2
 refine A9 hop (hcon w S mc us ?_ ?_ ?_ ?_) hrun ?_
 ·rw [hl,hcs]; simp [n1]; omega
 ·intro i c0 hi hk;rw [hcs,cP (by simpa [n1] using hk)] at hi;simp only [cy,n1] at hi;obtain ⟨u,e1,d0,e2⟩:=hrest us hl hrel (i - K) c0 hi;exact ⟨u,d0,by rw [<-e1]; congr 1; omega,av (fun b _ hb=>⟨⟨hb,hnotS b hb⟩,rfl⟩) d0 (fun _ _ _ h=>h) (fun h=>by simp at h) (fun h=>by simp at h) e2⟩
 ·intro i c0 hi hk;obtain ⟨n,c,a0,e1,e2,_,g1,g2,e3⟩:=hget i hk;rw [e2] at hi;simp only [cb] at hi;subst hi;obtain ⟨u,h1,h2⟩:=hrel i _ g1;obtain ⟨u0,d0,hr0⟩:=H.root n;rcases g2 with ⟨nl,es,row,ea,g3,ec⟩|⟨nl,es,cap,rows,ea,g3,ec⟩
  ·subst ea;obtain ⟨nl',es',cap',rows',b,off,kk,f1,f2,f3⟩:=mi h2;have f1':(st.roots n).at []=some (.sl true nl' es' cap' rows'):=f1;rw [g3] at f1';simp only [C.at,cb,C.sl.injEq,true_and] at f1';obtain ⟨rfl,rfl,rfl,rfl⟩:=f1';have hr0':=hr0;rw [g3] at hr0';obtain ⟨a1,k1,D,q1,q2,q3,q4,q5,_⟩:=eb hr0';have hk1:k1=1:=q5 1 rfl;have hu0:u0=m n []:=by rw [q1,q2]
   rw [f2] at q2;simp only [Value.slice.injEq] at q2;obtain ⟨q2a,_,q2c⟩:=q2;refine ⟨u,d0,h1,?_,?_⟩
   ·rw [ec];exact ⟨b,off,by rw [f3]; simp,by rw [e3,f2,q2c,hk1]; rfl⟩
   ·rw [e3,<-hu0,ec,<-g3];refine av hS0 d0 (fun _ _ _ h=>h) (fun _ _ _ _ _ _=>rfl) (fun _ _ _=>rfl) hr0
  ·subst ea;obtain ⟨nl',es',cap',rows',a1,k,a',k',f1,f2,f3,f4,f5,f6,f7,f8,f9⟩:=ei h2;have f1':(st.roots n).at []=some (.sl true nl' es' cap' rows'):=f1;rw [g3] at f1';simp only [C.at,cb,C.sl.injEq,true_and] at f1';obtain ⟨rfl,rfl,rfl,rfl⟩:=f1';have hr0':=hr0;rw [g3] at hr0';obtain ⟨a2,k1,D,q1,q2,_⟩:=eb hr0';have hu0:u0=m n []:=by rw [q1,q2]
   have hkk:=f8 rfl;refine ⟨u,d0,h1,?_,?_⟩
   ·rw [ec];show u=mc i []∨_;rw [e3,f2,f4];rcases f9 with f9|⟨b,off,z1,z2⟩
    ·right;have hl:rows.length=0:=by omega
     have hk0:k=0:=by omega
     exact ⟨a',a1,by rw [hl,f9],by rw [hl,hk0]⟩
    ·left;rw [z1,z2,show k'=k by omega]; simp
   ·rw [e3,<-hu0,ec];rw [g3] at hr0;refine av hS0 d0 (fun _ _ _ h=>h) (fun _ _ _ _ _ _=>rfl) (fun _ _ _=>rfl) (QW hr0)
 ·intro i p i' p' b h1 h2 h3 h4;obtain ⟨_,n,e1,e2,e3⟩:=hRl i p h1;obtain ⟨_,n',e1',e2',e3'⟩:=hRl i' p' h2;rw [e3] at h3;rw [e3'] at h4;obtain ⟨rfl,rfl⟩:=H.inj _ _ _ _ b e2 e2' h3 h4;exact ⟨(List.getElem?_inj (cd.1 e1).1 n3).1 (e1.trans e1'.symm),rfl⟩
 ·rintro u w' ⟨mk,⟨dr,hr⟩,hroots,hinj,hown,hfr⟩;obtain ⟨mk',hmk⟩:∃ mk':Nat->aq->Value,mk'=fun n=>mk (ks.idxOf n):=⟨_,rfl⟩;have hix:∀ n,n∈ks->ks.idxOf n < K/\ks[ks.idxOf n]?=some n/\∃ c,ls[ks.idxOf n]?=some c:=by
   intro n hn;have h1:=List.idxOf_lt_length_of_mem hn;refine ⟨by omega,by simp [h1],?_⟩;exact ⟨ls[ks.idxOf n]'(by omega),cn _⟩
  have hRk:∀ n,n∈ks->Rl K ls (ks.idxOf n)=(ls[ks.idxOf n]?).getD .dead:=by intro n hn; simp [Rl,(hix n hn).1]
  have hOL:∀ b,TH ks (fun n=>(ls[ks.idxOf n]?).getD .dead) mk' b->aI (Rl K ls) mk b:=by
   rintro b ⟨n,hn,p,h1,h2⟩;exact ⟨ks.idxOf n,p,by rw [hRk n hn]; exact h1,by rw [hmk] at h2; exact h2⟩
  rw [hdst];refine OW (Kc:=aI (Rl K cs) mc) (mk:=mk') (tr:=fun n=>(ls[ks.idxOf n]?).getD .dead) H ⟨dr,hr⟩ ?_ ?_ ?_ ?_ ?_ ?_ hfr
  ·intro n hn;obtain ⟨h1,h2,c0,h3⟩:=hix n hn;obtain ⟨_,uu,dd,h4⟩:=hroots _ c0 h3;exact ⟨uu,dd,by rw [hmk]; simpa [h3] using h4⟩
  ·intro n hn;obtain ⟨h1,h2,c0,h3⟩:=hix n hn;obtain ⟨n',c,a0,e1,e2,e5,e6,e7,e8⟩:=hget _ h1;rw [h2] at e1;obtain rfl:=ng e1;have g4:dH c0=dH c:=by
    have:=congrArg (fun l=>l[ks.idxOf n]?) hsh;simp only [cu,h3,e5,cx,cb] at this;exact this
   have e9:mk (ks.idxOf n) []=m n []:=by rw [(hroots _ c0 h3).1,e8]
   rcases e7 with ⟨nl,es,row,_,g3,ec⟩|⟨nl,es,cap,rows,_,g3,ec⟩
   ·rw [ec] at g4;obtain ⟨nl',cap',rows',z1,z2⟩:=yf g4;rcases z2 with ⟨_,z3,row',z4⟩|⟨z3,_,_⟩
    ·exact ⟨nl,es,some 1,[row],nl',cap',rows',g3,by simp [h3,z1],by rw [z4]; rfl,by rw [hmk]; exact e9⟩
    ·cases z3
   ·rw [ec] at g4;obtain ⟨nl',cap',rows',z1,z2⟩:=yf g4;rcases z2 with ⟨z3,_⟩|⟨z3,z4,_⟩
    ·cases z3
    ·exact ⟨nl,es,cap,rows,nl',cap',rows',g3,by simp [h3,z1],by simpa using z3.symm,by rw [hmk]; exact e9⟩
  ·rintro b hlt ⟨h1,h2⟩;refine ⟨fun hb=>?_,fun h=>h2 (hOL b h)⟩;rcases h1 with h1|h1|h1
   ·exact .inl ⟨hg b h1,hnot b (hg b h1)⟩
   ·exact .inr h1
   ·omega
  ·intro n hn n' hn' q q' b h1 h2 h3 h4;rw [hmk] at h3 h4;have:=hinj (ks.idxOf n) q (ks.idxOf n') q' b (by rw [hRk n hn]; exact h1) (by rw [hRk n' hn']; exact h2) h3 h4;refine ⟨?_,this.2⟩;have e1:=(hix n hn).2.1;have e2:=(hix n' hn').2.1;rw [this.1,e2] at e1;exact (ng e1).symm
  ·intro b h;exact hown b (hOL b h)
  ·exact hKc
def SR {E:Env} (hG:GOk P E) (H:ar X m st a w) {o:Oper} {c:Call} (hop:o.op=.call c) {d f:Nat} (hdst:o.dst=some d) {args:List C} (hc:gi st c=some (f,args)) {fl:FnL} (hfl:E.L d f=some fl) (hk0:fl.k≠0)
  {st':St} (hx:Ef d fl args st=some st') {Qx:Exit->Act->World->Prop}:o.wp P a w (fun a' w'=>∃ m',ar X m' st' a' w') Qx:=by
 unfold Ef at hx;split at hx
 case h_2=>cases hx
 rename_i ns hns;split at hx
 case isFalse=>cases hx
 rename_i hok;split at hx
 case h_2=>cases hx
 rename_i r ls hfn;split at hx
 case isFalse=>cases hx
 rename_i hsh;simp only [cb] at hx;subst hx;obtain ⟨n1,n2,n3,n4⟩:=Fg hns;have hcon:=(hG.2 d f fl hfl).con hk0 (ns.map Prod.snd) (args.drop fl.k) r ls (by simp [n1]) hfn;refine X8 H hop hdst hc hns (rs:=args.drop fl.k) (by simp) (S:=X.S st.roots m) (fun _ h=>h) (fun b hs n _ p ho hb=>hs.2 ⟨n,p,ho,hb⟩) ?_ (g:=fun S=>S) hcon (fun _ h=>h) hsh;intro us hl hrel i c0 hi;rw [cZ] at hi;obtain ⟨u,e1,d0,e2⟩:=hrel (fl.k+i) c0 hi;have hco:Bh c0=true:=cq.1 hok c0 (cg (i:=i) (by rw [cZ]; exact hi));exact ⟨u,e1,d0,av (fun b _ hb=>⟨hb,rfl⟩) d0 (fun v _ ho _=>(Om hco d0 ho).elim) (fun h=>by simp at h) (fun h=>by simp at h) e2⟩
end
section
variable {X:Ctx} {m:Nat->aq->Value} {st:St} {a:Act} {w:World} {P:Program}
def Zt {R R':Nat->C} {m m':Nat->aq->Value} {d i j:Nat} {u:Value} (hR:R' d=R 0) (hm:m' d []=m 0 []) (h:Lv R m (.pref 0 [] i j) u):Lv R' m' (.pref d [] i j) u:=by
 obtain ⟨nl,es,cap,rows,b,off,k,h1,h2,h3⟩:=h;exact ⟨nl,es,cap,rows,b,off,k,by rw [hR]; exact h1,by rw [hm]; exact h2,h3⟩
def Qy {w:World} {S S':Nat->Prop} {R R':Nat->C} {m m':Nat->aq->Value} {d D:Nat} {p p':aq} {c:C} {u:Value} (hR:R' d=R 0) (hm:m' d []=m 0 []) (hc:PQ c=true) (h:rel w S (Lv R m) dm false D p c u):rel w S' (Lv R' m') dm false D p' (Qw d c) u:=by
 cases D with
 | zero=>exact h.elim
 | succ D=>
  unfold PQ at hc;split at hc
  ·exact Zt hR hm h
  ·exact h
  ·cases hc
def Xn {w:World} {S S':Nat->Prop} {R R':Nat->C} {m m':Nat->aq->Value} {d D:Nat} {c:C} {u:Value} (hR:R' d=R 0) (hm:m' d []=m 0 []) (hc:UP c=true) (h:rel w S (Lv R m) dm false D [] c u):rel w S' (Lv R' m') dm false D [] (LZ d c) u:=by
 unfold UP at hc;split at hc
 ·rename_i cs;cases D with
  | zero=>exact h.elim
  | succ D=>
   obtain ⟨arr,h1,h2,h3⟩:=h;refine ⟨arr,h1,by simpa [LZ] using h2,?_⟩;intro j c' hj;simp only [cu,cj] at hj;obtain ⟨c0,hj,rfl⟩:=hj;obtain ⟨u',e1,e2⟩:=h3 j c0 hj;exact ⟨u',e1,Qy hR hm (cq.1 hc c0 (cg hj)) e2⟩
 ·rename_i hn;have e:LZ d c=Qw d c:=by
   unfold LZ;split
   ·rename_i cs; exact (hn cs rfl).elim
   ·rfl
  rw [e];exact Qy hR hm hc h
def TP {E:Env} (hG:GOk P E) (H:ar X m st a w) {o:Oper} {c:Call} (hop:o.op=.call c) {d f:Nat} (hdst:o.dst=some d) {args:List C} (hc:gi st c=some (f,args)) {fl:FnL} (hfl:E.L d f=some fl) (hk0:fl.k=0) (hdH:d < H0)
  {st':St} (hx:Gw d fl args st=some st') {Qx:Exit->Act->World->Prop}:o.wp P a w (fun a' w'=>∃ m',ar X m' st' a' w') Qx:=by
 obtain ⟨us,hl,hrel,hrun⟩:=tn (P:=P) (ty:=o.type) H hc;unfold Gw at hx;split at hx
 case h_2=>cases hx
 rename_i cs hsn;split at hx
 case isFalse=>cases hx
 rename_i hno;split at hx
 case h_2=>cases hx
 rename_i r c0 hfn;split at hx
 case isFalse=>cases hx
 rename_i hnew;simp only [cb] at hx;subst hx;obtain ⟨s1,s2⟩:=AS (N:=fun _=>True) H hl hrel (fun _ _ _ _ _ _ _ _=>trivial) hsn;have hcon:=(hG.2 d f fl hfl).new hk0 cs r c0 hfn;have hnv:args.any oF=false:=by
  rw [xt];intro c hcm;have:=cq.1 hno c hcm;simpa using this
 have hargs:∀ (j:Nat) (c:C),cs[j]?=some c->∃ u d0,us[j]?=some u/\rel w (X.S st.roots m) L0 dm false d0 [] c u:=by
  intro j c hj;obtain ⟨u,e1,d1,e2⟩:=s2 j c hj;refine ⟨u,d1,e1,av (fun b _ hb=>⟨?_,rfl⟩) d1 (fun _ _ _ h=>h) (fun h=>by simp at h) (fun h=>by simp at h) e2⟩;rcases hb with hb|⟨hb,_⟩
  ·exact hb
  ·rw [hnv] at hb; cases hb
 refine A9 hop (hcon w (X.S st.roots m) us (by omega) hargs) hrun ?_;rintro u w' ⟨mk,⟨D1,q1⟩,⟨uu,D2,q2⟩,q3,q4,q5⟩;rw [hdst];obtain ⟨h1,hd1⟩:=pI H d;have hon:=rh H hdH;have:=za h1 (d:=d) (ks:=[]) (own:=true) (r:=c0) (u:=uu) (w':=w') (mr:=mk) (Sr:=fun b=>(X.S st.roots m b∨w.heap.size<=b)/\¬ iR c0 mk b) (Kc:=fun _=>False) (tmps0:=(st.fresh d).tmps)
  (fun _=>hd1) (by simp) (by simp) q2 (by
   rintro b _ ⟨e2,e3⟩;refine ⟨fun hlt=>.inl ⟨?_,id⟩,e3⟩;rcases e2 with e2|e2
   ·exact hon.S b hlt e2
   ·omega) q3 (fun b hb=>.inl (q4 b hb)) (by simp) q5 rfl (by
   intro t c0 ht;refine .inr ⟨ht,fun v uv dd ho hl=>?_⟩;cases hp:v.place with
   | none=>cases v<;>simp [C.place] at hp<;>exact hl.elim
   | some np=>
    obtain ⟨n,p⟩:=np;exact ⟨n,p,rfl,by simp,fun _=>by rintro rfl; exact yU hp hl hd1⟩)
 have e:(fun n=>if n=d/\true=true then c0 else if n∈([]:List Nat) then C.dead else (st.fresh d).roots n)=upd (st.fresh d).roots d c0:=by
  funext n; simp [upd]
 rw [e] at this;obtain ⟨m',hm'⟩:∃ m':Nat->aq->Value,m'=fun n p=>if n=d/\true=true then mk p else m n p:=⟨_,rfl⟩
 rw [<-hm'] at this;refine ⟨m',?_⟩;have fin:=this.putTmp d (c:=LZ d r) (u:=u) ⟨D1,Xn (R:=R1 c0) (m:=fun _=>mk) (by simp [R1,aC]) (by simp [hm']) hnew q1⟩;simpa [Act.put] using fin
def Sd {E:Env} (hG:GOk P E) (H:ar X m st a w) {o:Oper} {c:Call} (hop:o.op=.call c) {d f:Nat} (hdst:o.dst=some d) {args:List C} (hc:gi st c=some (f,args)) {fl:FnL} (hfl:E.L d f=some fl)
  {st':St} (hx:EC d fl args st=some st') {Qx:Exit->Act->World->Prop}:o.wp P a w (fun a' w'=>∃ m',ar X m' st' a' w') Qx:=by
 obtain ⟨us,hl,hrel,hrun⟩:=tn (P:=P) (ty:=o.type) H hc;unfold EC at hx;split at hx
 case h_2=>cases hx
 rename_i n p len rest;split at hx
 case isFalse=>cases hx
 rename_i hcond;obtain ⟨hk1,hpe,hok⟩:=hcond;split at hx
 case h_2=>cases hx
 rename_i nl0 es0 cap0 rows0 nl es cap rows hroot hnode;split at hx
 case isFalse=>cases hx
 rename_i hlen;split at hx
 case h_2=>cases hx
 rename_i r c1 hfn;split at hx
 case isFalse=>cases hx
 rename_i hsh;simp only [cb] at hx;subst hx;rw [<-hroot];have hnode':(st.roots n).at p=some (.sl true nl es cap rows):=hnode;have hpne:p≠[]:=by intro h; rw [h] at hpe; cases hpe
 have hcon:=(hG.2 d f fl hfl).con (by omega) [.sl true none es none rows] rest r [c1] (by simp [hk1]) hfn;rw [hk1] at hcon;obtain ⟨cs,hcs⟩:∃ cs,cs=[C.sl true none es none rows]++rest:=⟨_,rfl⟩;rw [<-hcs] at hcon;obtain ⟨mc,hmc⟩:∃ mc:Nat->aq->Value,mc=fun i q=>m n (p++q):=⟨_,rfl⟩;have hown_in:∀ q,ak (C.sl true none es none rows) q->ak (st.roots n) (p++q):=by
  intro q ho;unfold ak at ho ⊢;rw [C.at_append,hnode',cc];cases q with
  | nil=>rfl
  | cons x q=>exact ho
 have hRl:∀ i q,ak (Rl 1 cs i) q->i=0/\ak (C.sl true none es none rows) q:=by
  intro i q ho;unfold Rl at ho;split at ho
  ·rename_i hi;have:i=0:=by omega
   subst this;rw [hcs] at ho;exact ⟨rfl,ho⟩
  ·exact (aM ho).elim
 have hKc:∀ b,aI (Rl 1 cs) mc b->∃ q,ak (st.roots n) (p++q)/\blk (m n (p++q))=some b:=by
  rintro b ⟨i,q,ho,hb⟩;obtain ⟨_,h2⟩:=hRl i q ho;rw [hmc] at hb;exact ⟨q,hown_in q h2,hb⟩
 have hnot:∀ b,X.S st.roots m b->¬ aI (Rl 1 cs) mc b:=by
  intro b hs ho;obtain ⟨q,h1,h2⟩:=hKc b ho;exact hs.2 ⟨n,_,h1,h2⟩
 have hS0:∀ b,b < w.heap.size->X.S st.roots m b->(X.S st.roots m b/\¬ aI (Rl 1 cs) mc b)/\w.heap[b]?=w.heap[b]?:=fun b _ hs=>⟨⟨hs,hnot b hs⟩,rfl⟩;obtain ⟨u0,d0,hr0⟩:=H.root n;obtain ⟨u1,d1,hr1⟩:=vH p hr0 hnode';simp only [cO] at hr1;obtain ⟨a1,k1,D,q1,q2,q3,q4,q5,q6,q7,q8⟩:=eb hr1;refine A9 hop (hcon w (X.S st.roots m) mc us ?_ ?_ ?_ ?_) hrun ?_
 ·rw [hl,hcs]; simp
 ·intro i c0 hi hk;rw [hcs] at hi;obtain ⟨i,rfl⟩:∃ i',i=i'+1:=⟨i - 1,by omega⟩;have hi':rest[i]?=some c0:=by simpa using hi
  obtain ⟨u,e1,d2,e2⟩:=hrel (i+1) c0 (by simpa using hi');have hco:Bh c0=true:=cq.1 hok c0 (cg hi');exact ⟨u,d2,e1,av hS0 d2 (fun v _ ho _=>(Om hco d2 ho).elim) (fun h=>by simp at h) (fun h=>by simp at h) e2⟩
 ·intro i c0 hi hk;have hi0:i=0:=by omega
  subst hi0;rw [hcs] at hi;simp only [nK,cr,cb] at hi;subst hi;obtain ⟨u,h1,h2⟩:=hrel 0 _ rfl;obtain ⟨nl',es',cap',rows',a2,k2,a',k',f1,f2,f3,f4,f5,f6,f7,f8,f9⟩:=ei h2;rw [hnode'] at f1;simp only [cb,C.sl.injEq,true_and] at f1;obtain ⟨rfl,rfl,rfl,rfl⟩:=f1;have hkk:=f8 rfl;refine ⟨u,d1,h1,?_,?_⟩
  ·show u=mc 0 []∨_;rw [hmc];simp only [cT];rw [f2,f4];rcases f9 with f9|⟨b,off,z1,z2⟩
   ·right;have hl:rows.length=0:=by omega
    have hk0:k2=0:=by omega
    exact ⟨a',a2,by rw [<-hlen,hl,f9],by rw [hl,hk0]⟩
   ·left;rw [z1,z2,show k'=k2 by omega,hlen]; simp
  ·have e0:mc 0 []=u1:=by rw [q1,hmc]; simp
   rw [e0,show mc 0=(fun q=>m n (p++q)) from by rw [hmc]];exact av (m:=m n) (m':=fun q=>m n (p++q)) (p:=p) (p':=[]) hS0 d1 (fun _ _ _ h=>h) (fun _ _ _ _ _ _=>rfl) (fun _ q _=>by simp) (QW hr1)
 ·intro i q i' q' b h1 h2 h3 h4;obtain ⟨rfl,g1⟩:=hRl i q h1;obtain ⟨rfl,g2⟩:=hRl i' q' h2;rw [hmc] at h3 h4;have:=(H.inj _ _ _ _ b (hown_in q g1) (hown_in q' g2) h3 h4).2;exact ⟨rfl,aee this⟩
 ·rintro u w' ⟨mk,⟨dr,hr⟩,hroots,hinj,hown,hfr⟩;obtain ⟨hm0,uu,dd,hrl⟩:=hroots 0 c1 rfl;have hc1:∃ rows',c1=.sl true none es none rows'/\rows'.length=rows.length:=by
   obtain ⟨nl',cap',rows',y1,y2⟩:=yf hsh;rcases y2 with ⟨y3,_⟩|⟨y3,rfl,rfl⟩
   ·cases y3
   ·exact ⟨rows',y1,by simpa using y3.symm⟩
  obtain ⟨rows',rfl,hrl'⟩:=hc1;obtain ⟨mk',hmk⟩:∃ mk':Nat->aq->Value,mk'=fun n' q=>if p <+: q then mk 0 (q.drop p.length) else m n' q:=⟨_,rfl⟩
  have mk_in:∀ n' q,mk' n' (p++q)=mk 0 q:=by intro n' q; rw [hmk]; simp
  have mk_out:∀ n' q,(∀ r,q≠p++r)->mk' n' q=m n' q:=by
   intro n' q h;rw [hmk];simp only;rw [if_neg];rintro ⟨r,hr⟩;exact h r hr.symm
  obtain ⟨tr,htr⟩:∃ tr:Nat->C,tr=fun _=>(st.roots n).turn (fun _=>.sl true none es none rows') p:=⟨_,rfl⟩;have eR:upd st.roots n ((st.roots n).turn (fun _=>.sl true none es none rows') p)=qt [n] tr st.roots:=by
   funext x
   by_cases e:x=n
   ·subst e; simp [upd,qt,htr]
   ·simp [upd,qt,e]
  rw [hroot] at eR ⊢;rw [eR];have hOw1:∀ b,aI (Rl 1 [C.sl true none es none rows']) mk b↔∃ q,ak (C.sl true none es none rows') q/\blk (mk 0 q)=some b:=by
   intro b;constructor
   ·rintro ⟨i,q,ho,hb⟩;unfold Rl at ho;split at ho
    ·rename_i hi;have:i=0:=by omega
     subst this;exact ⟨q,ho,hb⟩
    ·exact (aM ho).elim
   ·rintro ⟨q,ho,hb⟩;exact ⟨0,q,by simpa [Rl] using ho,hb⟩
  have hsplit:∀ q b,ak (tr n) q->blk (mk' n q)=some b->(∃ r,q=p++r/\ak (C.sl true none es none rows') r/\blk (mk 0 r)=some b)∨((∀ r,q≠p++r)/\ak (st.roots n) q/\blk (m n q)=some b):=by
   intro q b ho hb;rw [htr] at ho;rcases ak.of_turn hnode' ho with ⟨r,rfl,h2⟩|⟨h1,h2⟩
   ·rw [mk_in] at hb; exact .inl ⟨r,rfl,h2,hb⟩
   ·rw [mk_out n q h1] at hb; exact .inr ⟨h1,h2,hb⟩
  have hoff:∀ q b,(∀ r,q≠p++r)->ak (st.roots n) q->blk (m n q)=some b->¬ aI (Rl 1 cs) mc b:=by
   intro q b h1 h2 h3 h4;obtain ⟨q',h5,h6⟩:=hKc b h4;exact h1 q' (H.inj _ _ _ _ b h2 h5 h3 h6).2
  have hoff2:∀ q b,(∀ r,q≠p++r)->ak (st.roots n) q->blk (m n q)=some b->¬ aI (Rl 1 [C.sl true none es none rows']) mk b:=by
   intro q b h1 h2 h3 h4;rcases hown b h4 with h|h
   ·have:=H.lt h2 h3; omega
   ·exact hoff q b h1 h2 h3 h
  rw [hdst];have hKK:∀ b,aI (Rl 1 cs) mc b->∃ q,ak (st.roots n) q/\blk (m n q)=some b:=fun b h=>let ⟨q,h1,h2⟩:=hKc b h; ⟨_,h1,h2⟩
  refine OW (ks:=[n]) (Kc:=fun b=>∃ q,ak (st.roots n) q/\blk (m n q)=some b) (mk:=mk') (tr:=tr) H ⟨dr,hr⟩ ?_ ?_ ?_ ?_ ?_ ?_ ⟨hfr.os,hfr.tape,hfr.output,hfr.drawn,hfr.size,fun b hb hn=>hfr.block b hb (fun h=>hn (hKK b h))⟩
  ·intro n' hn;simp only [cG] at hn;subst hn;have hSt:∀ b,b < w.heap.size->X.S st.roots m b->((X.S st.roots m b∨aI (Rl 1 cs) mc b∨w.heap.size<=b)/\¬ aI (Rl 1 [C.sl true none es none rows']) mk b)/\w'.heap[b]?=w.heap[b]?:=by
    intro b hb hs;refine ⟨⟨.inl hs,fun h=>?_⟩,hfr.block b hb (hnot b hs)⟩;rcases hown b h with h|h
    ·omega
    ·exact hnot b hs h
   obtain ⟨d',hd'⟩:=AP (f:=fun _=>C.sl true none es none rows') (m':=mk' n') hSt p hr0 hnode' (by
    intro q1 b ho hne hb hlt;simp only [cO] at hb;exact hfr.block b hlt (hoff q1 b hne ho hb)) (by
    intro q1 ho hne;simp only [cO];exact mk_out n' q1 hne) (by
    intro u2 d2 h2;simp only [cO] at h2 ⊢;obtain ⟨_,_,_,g1,_⟩:=eb h2;obtain ⟨_,_,_,g3,_⟩:=eb hrl;have e1:u2=uu:=by
     have e2:mc 0 []=m n' p:=by rw [hmc]; simp
     rw [g3,hm0,e2]; exact g1
    rw [e1];exact ⟨dd,av (m:=mk 0) (m':=mk' n') (p:=[]) (p':=p) (fun b _ h=>⟨h,rfl⟩) dd (fun _ _ _ h=>h) (fun _ _ _ _ _ _=>rfl) (fun _ q _=>by simpa using mk_in n' q) hrl⟩)
   exact ⟨_,d',by rw [htr]; exact hd'⟩
  ·intro n' hn;simp only [cG] at hn;subst hn;have e0:mk' n' []=m n' []:=mk_out n' [] (by intro r h; exact hpne (by cases p with|nil=>rfl|cons _ _=>simp at h));obtain ⟨x,p',rfl⟩:∃ x p',p=x::p':=by cases p with|nil=>exact (hpne rfl).elim|cons x p'=>exact ⟨x,p',rfl⟩
   have e5:tr n'=.sl true nl0 es0 cap0 (rows0.modify x.1 (·.modify x.2 (C.turn (fun _=>C.sl true none es none rows') · p'))):=by
    rw [htr];show (st.roots n').turn _ _=_;rw [hroot]; rfl
   exact ⟨nl0,es0,cap0,rows0,nl0,cap0,_,hroot,e5,by simp,e0⟩
  ·rintro b hlt ⟨h1,h2⟩;refine ⟨fun hb=>?_,?_⟩
   ·rcases h1 with h1|h1|h1
    ·exact .inl ⟨h1,fun ⟨q,h3,h4⟩=>h1.2 ⟨_,q,h3,h4⟩⟩
    ·exact .inr (hKK b h1)
    ·omega
   ·rintro ⟨n',hn,q,h3,h4⟩;simp only [cG] at hn;subst hn;rcases hsplit q b h3 h4 with ⟨r',rfl,h5,h6⟩|⟨h5,h6,h7⟩
    ·exact h2 ((hOw1 b).2 ⟨r',h5,h6⟩)
    ·rcases h1 with h1|h1|h1
     ·exact h1.2 ⟨_,q,h6,h7⟩
     ·exact hoff q b h5 h6 h7 h1
     ·have:=H.lt h6 h7; omega
  ·intro n1 hn1 n2 hn2 q q' b h1 h2 h3 h4;simp only [cG] at hn1 hn2;subst hn1;subst hn2;refine ⟨rfl,?_⟩;rcases hsplit q b h1 h3 with ⟨r1,rfl,g1,g2⟩|⟨g0,g1,g2⟩<;>rcases hsplit q' b h2 h4 with ⟨r2,rfl,f1,f2⟩|⟨f0,f1,f2⟩
   ·have:=hinj 0 r1 0 r2 b (by simpa [Rl] using g1) (by simpa [Rl] using f1) g2 f2;rw [this.2]
   ·exact (hoff2 _ b f0 f1 f2 ((hOw1 b).2 ⟨r1,g1,g2⟩)).elim
   ·exact (hoff2 _ b g0 g1 g2 ((hOw1 b).2 ⟨r2,f1,f2⟩)).elim
   ·exact (H.inj _ _ _ _ b g1 f1 g2 f2).2
  ·rintro b ⟨n',hn,q,h3,h4⟩;simp only [cG] at hn;subst hn;rcases hsplit q b h3 h4 with ⟨r',rfl,h5,h6⟩|⟨h5,h6,h7⟩
   ·exact (hown b ((hOw1 b).2 ⟨r',h5,h6⟩)).imp id (hKK b)
   ·exact .inr ⟨q,h6,h7⟩
  ·rintro b ⟨q,h1,h2⟩;exact ⟨n,by simp,_,h1,h2⟩
def PO {E:Env} (hG:GOk P E) (H:ar X m st a w) {o:Oper} {c:Call} (hop:o.op=.call c) {d f:Nat} (hdst:o.dst=some d) {args:List C} (hc:gi st c=some (f,args)) {fl:FnL} (hfl:E.L d f=some fl) (hk0:fl.k≠0)
  {st':St} (hx:Eg d fl args st=some st') {Qx:Exit->Act->World->Prop}:o.wp P a w (fun a' w'=>∃ m',ar X m' st' a' w') Qx:=by
 unfold Eg at hx;split at hx
 case h_2=>cases hx
 rename_i ns hns;split at hx
 case isFalse=>cases hx
 rename_i hcond;obtain ⟨hpure,hsee,hother⟩:=hcond;split at hx
 case h_2=>cases hx
 rename_i rs hrs;split at hx
 case h_2=>cases hx
 rename_i r ls hfn;split at hx
 case isFalse=>cases hx
 rename_i hsh;simp only [cb] at hx;subst hx;obtain ⟨n1,n2,n3,n4⟩:=Fg hns;obtain ⟨vs,hvs⟩:∃ vs,vs=(args.drop fl.k).flatMap zm:=⟨_,rfl⟩;rw [<-hvs] at hsee hother;have hcon:=(hG.2 d f fl hfl).pur hk0 hpure (ns.map Prod.snd) rs r ls (by simp [n1]) hfn;have hS:∀ c∈args.drop fl.k,LQ (fun n=>n∈vs) c:=by
  intro c hcm dd v n p ho hp;have h1:=cq.1 hsee c hcm;obtain ⟨n',p',e1,e2⟩:=iC dd 3 c v (by simpa using h1) ho;rw [hp] at e1;simp only [cb,cz] at e1;obtain ⟨rfl,rfl⟩:=e1;simpa using e2
 obtain ⟨us0,hl0,hrel0,_⟩:=tn (P:=P) (ty:=o.type) H hc;have hlen:rs.length=(args.drop fl.k).length:=(AS (N:=fun n=>n∈vs) H (us:=us0.drop fl.k) (cs:=args.drop fl.k) (by simp [hl0]) (by
  intro j c hj;rw [cZ] at hj;obtain ⟨u,e1,e2⟩:=hrel0 _ c hj;exact ⟨u,by rw [cZ]; exact e1,e2⟩) hS hrs).1
 refine X8 H hop hdst hc hns (rs:=rs) (by rw [hlen]; simp) (S:=fun b=>X.S st.roots m b∨qU (fun n=>n∈vs) st.roots m b) (fun _ h=>.inl h) ?_ ?_ (g:=fun _ _=>False) hcon (fun _ h=>h.elim) hsh
 ·rintro b (hs|⟨n',p',hn',ho',hb'⟩) n hn p ho hb
  ·exact hs.2 ⟨n,p,ho,hb⟩
  ·obtain ⟨rfl,_⟩:=H.inj _ _ _ _ b ho' ho hb' hb;have:=cq.1 hother n' hn';simp only [nC,adT,decide_eq_false_iff_not] at this;exact this hn
 ·intro us hl hrel i c0 hi;obtain ⟨_,s2⟩:=AS (N:=fun n=>n∈vs) H (us:=us.drop fl.k) (cs:=args.drop fl.k) (by simp [hl]) (by
   intro j c hj;rw [cZ] at hj;obtain ⟨u,e1,e2⟩:=hrel _ c hj;exact ⟨u,by rw [cZ]; exact e1,e2⟩) hS hrs
  obtain ⟨u,e1,e2⟩:=s2 i c0 hi;rw [cZ] at e1;exact ⟨u,e1,e2.mono (fun b hb=>hb.imp id (fun h=>h.2))⟩
def XB {E:Env} (hG:GOk P E) (H:ar X m st a w) {o:Oper} {c:Call} (hop:o.op=.call c) {d f:Nat} (hdst:o.dst=some d) {args:List C} (hc:gi st c=some (f,args)) {fl:FnL} (hfl:E.L d f=some fl)
  {st':St} (hx:PN d fl args st=some st') (hdH:d < H0) {Qx:Exit->Act->World->Prop}:o.wp P a w (fun a' w'=>∃ m',ar X m' st' a' w') Qx:=by
 unfold PN at hx;split at hx
 ·rename_i hk; exact TP hG H hop hdst hc hfl hk hdH hx
 rename_i hk;split at hx
 ·rename_i s hs;simp only [cb] at hx;subst hx;exact SR hG H hop hdst hc hfl hk hs
 split at hx
 ·rename_i s hs;simp only [cb] at hx;subst hx;exact Sd hG H hop hdst hc hfl hs
 exact PO hG H hop hdst hc hfl hk hx
end
end Go.Abs
