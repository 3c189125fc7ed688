/- A library of readings of Go values with their ownership,and of walks on them. No statement of the program. -/
import Derived.Test.YtmacaidmhchpgaaGreatAbsA
import Derived.Laws.IdiomCopy
import Derived.Lib.AppendZerosOnto
import Derived.Laws.MakeOwn
set_option linter.defProp false
set_option linter.unusedSimpArgs false
set_option linter.unusedVariables false
namespace Go.Abs
section
variable {X:Ctx} {m:Nat->aq->Value} {st:St} {a:Act} {w:World} {P:Program}
def av.dropStep(H:av X m st a w)(d:Nat):eL X m st w m (st.drop d) w [d]:=by
 refine⟨by simp[St.drop],?_,fun _ _ _=>rfl,ck _,⟨fun n p=>(n,p),none,?_,?_⟩,?_,?_,rfl,rfl,rfl,ck _⟩
 .refine Ff fun v u n' p hp hf hl=>mn hp rfl ?_ hl;intro nl es cap rows he;have:n'≠d:=oZf;exact⟨cap,rows,by simp_all[St.drop,aV],rfl⟩
 .intro n' p b ho hb;by_cases e:n'=d
  .simp_all[St.drop,aI,aY]
  .simp only[St.drop,aV e]at ho;exact .inr ⟨oZk,ho,hb,H.lt ho hb⟩
 .simp_all
 .intro n' e;have e:n'≠d:=by simpa using e
  exact⟨by simp[St.drop,aV e],fun _ _=>rfl,fun _ _ _ _ _=>rfl⟩
 .intro hS n' e;obtain rfl:n'=d:=by simpa using e
  exact⟨undef,1,by simp[St.drop,aI,rel]⟩
structure L9 (X:Ctx) (m:Nat->aq->Value) (st:St) (w:World) (m':Nat->aq->Value) (st':St) (w':World):Prop where
 S:∀b,b<w.heap.size->X.S st.roots m b->X.S st'.roots m' b
 hands:∀h,H0<=h->∀u d,rel w (X.S st.roots m) L0 (m h) true d [] (st.roots h) u->rel w' (X.S st'.roots m') L0 (m' h) true d [] (st'.roots h) u
def L9.refl:L9 X m st w m st w:=⟨fun _ _ h=>h,fun _ _ _ _ h=>h⟩
def L9.trans{m' m'':Nat->aq->Value}{st' st'':St}{w' w'':World}(h:L9 X m st w m' st' w')(h':L9 X m' st' w' m'' st'' w'')(hs:w.heap.size<=w'.heap.size):L9 X m st w m'' st'' w'':=
 ⟨fun b hb hs'=>h'.S b (aiH hb hs) (h.S b hb hs'),fun x hx u d hr=>h'.hands x hx u d (h.hands x hx u d hr)⟩
def eL.onto{m':Nat->aq->Value}{st':St}{w':World}{ch:List Nat}(s:eL X m st w m' st' w' ch)(hch:∀n∈ch,n<H0):L9 X m st w m' st' w':=
 ⟨fun b hb hs=>(s.S b hb hs).1,fun h hh u d hr=>(s.keeps (fun hc=>by grind)).2.2 u d hr⟩
def uw(h:av X m st a w){d:Nat}(hd:d<H0):L9 X m st w m (st.fresh d) w:=by
 unfold St.fresh;split
 .exact .refl
 .exact(h.dropStep d).onto oZf
def MT{d n:Nat}(hn:n≠d):(st.fresh d).roots n=st.roots n:=by
 unfold St.fresh;split
 .rfl
 .simp[St.drop,aV hn]
def abV{d n:Nat}{p:aq}{lo len:Nat}{cap:Option Nat}{u:Value}(hn:n≠d)(h:Lv st.roots m (.pal n p lo len cap) u):Lv (st.fresh d).roots m (.pal n p lo len cap) u:=
 mn (n:=n) (p:=p) rfl rfl (fun nl es cap rows he=>⟨cap,rows,by simp_all[MT],rfl⟩) h
structure Xm (X:Ctx) (m:Nat->aq->Value) (st:St) (a:Act) (w:World) (d es:Nat) (us:Value) (rows:List (List C)) (m1:Nat->aq->Value) (st1:St):Prop where
 inv:av X m1 st1 a w
 onto:L9 X m st w m1 st1 w
 same:∀n,n≠d->∀q,m1 n q=m n q
 hd:∃nl cap a0 k a' k',st1.roots d=.sl true nl es cap rows/\m1 d []=.slice a0 rows.length k/\us=.slice a' rows.length k'/\(k'=0∨a'=a0)/\k'<=k/\rows.length<=k'/\(k'=0∨∃b off,a'=some ⟨b,off,none⟩)
def Zi(H:av X m st a w){d es:Nat}(hdH:d<H0){s:C}{us:Value}(hs:aF X m st w s us){st1:St}{rows:List (List C)}(hp:BD d es s st=some (st1,rows)):∃m1,Xm X m st a w d es us rows m1 st1:=by
 obtain⟨h1,hd1⟩:=sd H d;have ad:∀(ao:Option Addr),∃m1,Xm X m st a w d es (.slice ao 0 0) [] m1 (adopt d es (st.fresh d)):=by
  intro ao;obtain⟨A1,A2⟩:=h1.adopt hd1 es ao;exact⟨_,A1,(uw H hdH).trans (A2.onto oZf) (ck _),fun n hn q=>iK _ _ _ (fun h=>hn h.1),none,none,ao,0,ao,0,by simp[adopt,aI],bz _ _ _,rfl,.inl rfl,ck _,ck _,.inl rfl⟩
 unfold BD at hp;split at hp
 .simp only[cc,cP]at hp;obtain⟨rfl,rfl⟩:=hp;obtain rfl:=hs.of_val;exact ad none
 .split at hp
  .simp only[cc,cP]at hp;obtain⟨rfl,rfl⟩:=hp;obtain⟨a0,k0,rfl,_,_,g4,_⟩:=Be hs
   simp_all
  .simp at hp
 .rename_i n p lo len cap;split at hp
  .rename_i nl es' cap' rows0 hn;split at hp
   case isFalse=>simp at hp
   rename_i hes;subst hes;obtain⟨nl',es'',cap'',rows',a0,k0,a',k',g1,g2,g3,rfl,g5,g6,g7,g8,g9⟩:=eD hs;have hn':(st.roots n).at p=some (.sl true nl es' cap' rows0):=hn;rw[hn']at g1;simp only[cc,C.sl.injEq,true_and]at g1;obtain⟨rfl,rfl,rfl,rfl⟩:=g1;split at hp
   .rename_i hnd;subst hnd;split at hp
    .rename_i hc;obtain⟨rfl,rfl,rfl⟩:=hc;simp only[cc,cP]at hp;obtain⟨rfl,rfl⟩:=hp;simp only[C.at,cc]at hn';refine⟨m,H,.refl,fun _ _ _=>rfl,nl,cap',a0,k0,a',k',hn',g2,rfl,?_,oZg,g5,?_⟩
     .grind
     grind
    .simp at hp
   .rename_i hnd;split at hp
    .rename_i hnH;simp only[cc,cP]at hp;obtain⟨rfl,rfl⟩:=hp;have hat:((st.fresh d).roots n).at p=some (.sl true nl es' cap' rows0):=by simp_all[MT]
     obtain⟨M1,M2,M3⟩:=h1.move (h:=d) hd1 (xw hnd) hat (abV hnd (eD hs));have hl:((rows0.drop lo).take len).length=len:=oZd;refine⟨_,M1,(uw H hdH).trans (M3.onto oZd) (ck _),fun x hx q=>by simp[ji,hx],none,cap,a',k',a',k',by simp[St.move,aI],by simp_all[ji],by rw[hl],.inr rfl,ck _,oZg,?_⟩
     grind
    .simp at hp
  .simp at hp
 .simp at hp
def Vb{E:Env}(hT:TOk P E)(H:av X m st a w){args:Array Operand}{argTypes:Array TypeId}{s x:Operand}{t tx ty:Nat}(hargs:args=#[s,x])(htys:argTypes=#[t,tx]){ti tix:TI}(hti:E.T t=some ti)(htix:E.T tx=some tix)(hkx:tix.kind=ti.kind){d:Nat}{st':St}(hp:BE E d ti s x st=some st'):
  ∃r w',(Builtin.append_ argTypes ty (args.map a.eval)).run P w=.ok r w'/\∃m',av X m' st' (a.put (some d) r) w'/\((∃e es,ti.kind=.slice e es/\(j8 st es (st.ev x)).isSome=true)->MB (some d) m st w m' st' w'):=by
 subst hargs htys;unfold BE at hp;split at hp
 case h_2=>simp at hp
 rename_i e es hkind;split at hp
 case h_2=>simp at hp
 rename_i te hte;split at hp
 case isTrue=>simp at hp
 rename_i hc;have hes:es≠0:=oZg;have hdH:d<H0:=oZg;obtain⟨dd,hdd,_,hk⟩:=(hT t ti hti).und;rw[hkind]at hk;obtain⟨rfl,ie,hie,hies⟩:=hk;obtain⟨ie',hie',hie1,_⟩:=(hT e te hte).info;rw[hie]at hie';cases hie';have hsz:te.size=es:=oZg;have fin:∀{m1:Nat->aq->Value} {st1:St} {rows extra:List (List C)} {news:List Value} {D:Nat} {m0:Nat->aq->Value} {st0:St},Xm X m0 st0 a w d es (a.eval s) rows m1 st1->FN P X m1 st1 w es tx (a.eval x) extra news D->(rows.length+extra.length)*(te.bytes-1+1)<=140737488355328 ->
   ∃r w',(Builtin.append_ #[t,tx] ty #[a.eval s,a.eval x]).run P w=.ok r w'/\∃m',av X m' (grown d es (rows++extra) st1) a w'/\aF X m' (grown d es (rows++extra) st1) w' (.pal d [] 0 (rows++extra).length none) r/\(∃ad kk,m' d []=.slice ad (rows++extra).length kk/\(extra≠[]->∃b off arr elem,ad=some ⟨b,off,none⟩/\w'.heap[b]?=some (.cells arr elem)/\∀(y:Nat) (v:Value),news[y]?=some v->arr[off+rows.length*es+y]?=some v))∧
   (∀h,H0<=h->h≠d->∀u dd,rel w (X.S st1.roots m1) L0 (m1 h) true dd [] (st1.roots h) u->rel w' (X.S (grown d es (rows++extra) st1).roots m') L0 (m' h) true dd [] ((grown d es (rows++extra) st1).roots h) u)∧
   (∀n,n≠d->ak (st1.roots n) []->m' n []=m1 n []/\∀b,blk (m1 n [])=some b->w'.heap[b]?=w.heap[b]?):=by
  intro m1 st1 rows extra news D m0 st0 hb hs hbd;obtain⟨nl,cap,a0,k,a',k',b1,b2,b3,b4,b5,b6,b7⟩:=hb.hd;have:=aeG (ty:=ty) hT hb.inv hdd (hT e te hte) hsz hes b1 b2 b4 b5 b6 b7 hs hbd
  simp_all
 split at hp
 .rename_i extra hsrc;split at hp
  case h_2=>simp at hp
  rename_i st1 rows hbase;split at hp
  case isFalse=>simp at hp
  rename_i hbd;simp only[cc]at hp;subst hp;obtain⟨news,D,hs⟩:=Bh hT H (hT tx tix htix) (by rw[hkx];exact hkind) hes (bo H x) hsrc;obtain⟨m1,hb⟩:=Zi H hdH (bo H s) hbase;obtain⟨r,w',f1,m',f2,f3,_,_,fk⟩:=fin hb (hs.mono hb.onto.S) hbd;refine⟨r,w',oZf,m',f2.putTmp d f3,fun _ n hn hnd ho ho'=>?_⟩;have hnd':n≠d:=fun h=>hnd (by rw[h]);have ho1:ak (st1.roots n) []:=by
   simp_all[grown,aV]
  have em:=hb.same n hnd' []
  grind
 .split at hp
  case h_2=>simp at hp
  rename_i n p lo cap hxv;split at hp
  case h_2=>simp at hp
  rename_i nl es' cap' srows hn;split at hp
  case h_2=>simp at hp
  rename_i row hrow;split at hp
  case isFalse=>simp at hp
  rename_i hes';subst hes';split at hp
  case h_2=>simp at hp
  rename_i st0 s' hprep;split at hp
  case h_2=>simp at hp
  rename_i st1 rows hbase;split at hp
  case isFalse=>simp at hp
  rename_i hbd;split at hp
  case h_2=>simp at hp
  rename_i st2 hplug;simp only[cc]at hp;subst hp;have hx:=bo H x;rw[hxv]at hx;obtain⟨b,off,k,arr,elem,g1,g2,g3,g4,g5,g6,g7⟩:=Ls H hn hrow;obtain⟨nl',es'',cap'',rows',a0,k0,a',k',q1,q2,q3,q4,q5,q6,q7,q8,q9⟩:=eD hx;have hn':(st.roots n).at p=some (.sl true nl es' cap' srows):=hn;rw[hn']at q1;simp only[cc,C.sl.injEq,true_and]at q1;obtain⟨rfl,rfl,rfl,rfl⟩:=q1;rw[g1]at q2;simp only[Value.slice.injEq,true_and]at q2;obtain⟨rfl,rfl⟩:=q2;have hap:a'=some ⟨b,off+lo*es',none⟩:=by
   grind
  obtain⟨us,u1,u2,u3⟩:∃us:List Value,us.length=es'/\(∀(y:Nat) (v:Value),us[y]?=some v->arr[off+lo*es'+y]?=some v)/\∀(y:Nat) (c:C),(lP n p lo 0 row)[y]?=some c->∃v,us[y]?=some v/\aF X m st w c v:=by
   refine⟨(List.range es').map fun y=>(arr[off+lo*es'+y]?).getD undef,oZk,?_,?_⟩
   .intro y v hy;simp only[cz,cq]at hy;obtain⟨z,hz,rfl⟩:=hy;have hlt:=(cg.1 hz).1;simp only[ai4]at hlt;have:z=y:=oZf;subst this;obtain⟨v,f1,_⟩:=g7 z row[z] (cj oZg);simp[f1]
   .intro y c hy;rw[O9]at hy
    grind
  obtain⟨m0,p1,p2,p3,p4,p5,p6⟩:=D9 es' (by rw[JB];exact g4) u1 (ck _) H u3 (bo H s) hprep;obtain⟨m1,hb⟩:=Zi p1 hdH p2 hbase;have hsrc:FN P X m1 st1 w es' tx (a.eval x) [row.map fun _=>.dead] us 1:=by
   obtain⟨ddx,hddx,_,hkx'⟩:=(hT tx tix htix).und;rw[hkx,hkind]at hkx';obtain⟨rfl,_⟩:=hkx';refine⟨?_,by simp[u1],by simp[g4],?_⟩
   .intro w' hw';rw[q4,hap];refine Src.ofSlice w' hddx ⟨b,off+lo*es',none⟩ 1 k' us (by simp[u1]) (fun y v hy=>?_) p6
    grind[Addr.add_lit,mu]
   .intro i j r c c1 c2;cases i with
    | zero=>
     simp only[cG,cc]at c1;subst c1;simp only[cz,cq]at c2;obtain⟨c0,c2,rfl⟩:=c2;have hlt:=(cg.1 c2).1;exact⟨us[j]'oZg,oZk,.dead⟩
    | succ i=>simp at c1
  rename_i hnone _ _;obtain⟨r,w',f1,m',f2,f3,⟨ad,kk,f4,f4'⟩,f5,_⟩:=fin hb hsrc oZg;obtain⟨b2,off2,arr2,elem2,rfl,f6,f7⟩:=f4' oZk;obtain⟨m2,k1,k2,k3,k3',⟨capz,rowsz,k4,k4'⟩,k5⟩:=Mj es' (us:=us) (j:=0) (i:=rows.length) (n:=d) (q:=[]) (b:=b2) (off:=off2) (kk:=kk) (nl:=none) (es:=es') (cap:=none) (rows:=rows++[row.map fun _=>.dead]) u1 (ck _) f2 (by simp[St.node,C.at,grown,aI]) f4 (by
   intro y v hy;obtain⟨dd,hdd⟩:=p3 y v hy;have hH:H0+y≠d:=oZg;exact⟨dd,f5 _ oZg hH _ _ (hb.onto.hands _ oZg _ _ hdd)⟩) hplug
  rw[Nl]at k1
  .refine⟨r,w',oZf,m2,k1.putTmp d ?_,?_⟩
   case refine_2=>
    simp_all
   have hz:(rows++[row.map fun _=>C.dead]).length=rows.length+1:=oZk;rw[<-hz];refine⟨1,mn (n:=d) (p:=[]) rfl k3' ?_ (eD f3)⟩;intro nl2 es2 cap2 rows2 he;simp only[C.at,grown,aI,cc,C.sl.injEq,true_and]at he;obtain⟨rfl,rfl,rfl,rfl⟩:=he
   grind[St.node]
  grind[mu]
end
def uk(c:C):Bool:=dN c || plainCell c
def aR(rows:List (List C))(lo:Nat)(extra:List (List C)):List (List C):=rows.take lo++extra++rows.drop (lo+extra.length)
def dt(n es:Nat)(nl:Option Bool)(cap:Option Nat)(rows:List (List C))(st:St):St:=
 {tmps:=st.tmps.map (poi (Af n)),roots:=upd st.roots n (.sl true nl es cap rows)}
section
variable {X:Ctx} {m:Nat->aq->Value} {st:St} {a:Act} {w:World} {P:Program}
theorem aci{c:C}(h:dN c=true):c.frz=.dead:=by rw[Du h];rfl
structure SP (X:Ctx) (m:Nat->aq->Value) (st:St) (w:World) (n es:Nat) (nl:Option Bool) (cap:Option Nat) (rows:List (List C)) (b off k:Nat) (arr:Array Value) (elem:TypeId) (D:Nat):Prop where
 head:m n []=.slice (some ⟨b,off,none⟩) rows.length k
 le:rows.length<=k
 max:k<=maxLen
 cap:∀c,cap=some c->k=c
 heap:w.heap[b]?=some (.cells arr elem)
 fit:off+k*es<=arr.size
 lens:∀row∈rows,row.length=es
 pos:D≠0
 cell:∀(i j:Nat) (row:List C) (c:C),(frzRows rows)[i]?=some row->row[j]?=some c->∃u,arr[off+i*es+j]?=some u/\bL w (X.S st.roots m) D c u
def Jc(H:av X m st a w){n es:Nat}{nl:Option Bool}{cap:Option Nat}{rows:List (List C)}(hR:st.roots n=.sl true nl es cap rows):
  ∃ad k,m n []=.slice ad rows.length k/\rows.length<=k/\k<=maxLen/\(∀c,cap=some c->k=c)/\(∀row∈rows,row.length=es)∧
   (k≠0->rows.all (·.all uk)=true->∃b off arr elem D,ad=some ⟨b,off,none⟩/\SP X m st w n es nl cap rows b off k arr elem D):=by
 obtain⟨u0,d0,hr0⟩:=H.root n;rw[hR]at hr0;obtain⟨a1,k1,dd,e1,e2,e3,e4,e5,ez,e6,e7⟩:=ei hr0;refine⟨a1,k1,e2,e3,e4,e5,e6,?_⟩;intro hk hall;rcases e7 with e7|⟨b,off,arr,elem,g1,g2,g4,g5⟩
 .omega
 .subst g1;refine⟨b,off,arr,elem,dd+1,rfl,⟨e2,e3,e4,e5,g2,g4,e6,oZg,?_⟩⟩;intro i j row c h1 h2;obtain⟨r0,c0,f1,f2,rfl⟩:=Qd h1 h2;obtain⟨u,q1,q2⟩:=g5 i j r0 c0 f1 f2;refine⟨u,q1,?_⟩;have hp:=cE.1 (cE.1 hall r0 (cd f1)) c0 (cd f2);simp only[uk,nf]at hp;rcases hp with hp|hp
  .exact .inl ⟨aci hp,oZg⟩
  .simp only[plainCell,cx,ny]at hp;exact .inr ⟨c0,rfl,hp.1,aW _ _ oZg (UB hp.1 (.inl hp.2) q2)⟩
def YW{rows extra:List (List C)}{lo:Nat}(hfit:lo+extra.length<=rows.length)(i:Nat):
  (aR rows lo extra)[i]?=if lo<=i/\i<lo+extra.length then extra[i-lo]? else rows[i]?:=by
 unfold aR;have hl:(rows.take lo).length=lo:=oZi
 grind
def Ll{rows extra:List (List C)}{lo:Nat}(hfit:lo+extra.length<=rows.length):(aR rows lo extra).length=rows.length:=by
 grind[aR]
theorem mZ(rows:List (List C)):(frzRows rows).length=rows.length:=by simp[frzRows]
def bL.deeper{S:Nat->Prop}{D D':Nat}{c:C}{u:Value}(h:bL w S D c u)(hD:D<=D'):bL w S D' c u:=by
 rcases h with⟨h1,h2⟩|⟨c0,h1,h2,h3⟩
 .exact .inl ⟨h1,oZg⟩
 .exact .inr ⟨c0,h1,h2,aW _ _ hD h3⟩
def Rp(H:av X m st a w){n es:Nat}{nl:Option Bool}{cap:Option Nat}{rows:List (List C)}(hR:st.roots n=.sl true nl es cap rows){b off k:Nat}{arr:Array Value}{elem:TypeId}{D:Nat}(hO:SP X m st w n es nl cap rows b off k arr elem D)(hk:k≠0)
  {extra:List (List C)} {news:List Value} {D2:Nat} {lo:Nat} (hfit:lo+extra.length<=rows.length) (hnl:news.length=extra.length*es) (hrow:∀row∈extra,row.length=es)
  (hcell:∀(i j:Nat) (row:List C) (c:C),extra[i]?=some row->row[j]?=some c->∃v,news[i*es+j]?=some v/\bL w (X.S st.roots m) D2 c v):
  ∃m',av X m' (dt n es nl cap (aR (frzRows rows) lo extra) st) a (w.setCells b (off+lo*es) news)/\m' n []=m n []∧
   eL X m st w m' (dt n es nl cap (aR (frzRows rows) lo extra) st) (w.setCells b (off+lo*es) news) [n]:=by
 obtain⟨arr',f1,f2,f3⟩:=M9 news (off+lo*es) hO.heap;obtain⟨q1,q2,q3,q4⟩:=M7 (b:=b) news (off+lo*es) (w:=w);have hfr:lo+extra.length<=(frzRows rows).length:=by simp_all[mZ]
 have hlen:=Ll hfr;rw[mZ]at hlen;have hes:∀row∈frzRows rows,row.length=es:=by
  intro row hr;simp only[frzRows,cH]at hr;obtain⟨r,hr,rfl⟩:=hr;simp[hO.lens r hr]
 have:=H.rewrite (w':=w.setCells b (off+lo*es) news) (D:=max D D2) hR hO.head hk (rows':=aR (frzRows rows) lo extra) (by rw[hlen];exact hO.le) oZg (by
  grind[aR]) f1 (by rw[f2];exact hO.fit) q4 (fun x hx=>KL _ _ hx) (by
  intro i j row c h1 h2;rw[YW hfr]at h1;split at h1
  .rename_i hi;obtain⟨v,c1,c2⟩:=hcell _ j row c h1 h2;have hlt:=(cg.1 c1).1;have hi2:i*es=lo*es+(i-lo)* es:=by rw[<-nH];simp_all
   refine⟨v,?_,c2.deeper (xy _ _)⟩;have hbound:off+i*es+j<arr.size:=by
    have hj:j<es:=oZi;have h5:(i+1)* es<=k*es:=nr _ (by have:=hO.le;omega);rw[nH]at h5;have:=hO.fit;omega
   grind
  .rename_i hi;obtain⟨u,c1,c2⟩:=hO.cell i j row c h1 h2;refine⟨u,?_,c2.deeper (xI _ _)⟩;have hbound:=(ng.1 c1).1;have hj:j<es:=oZi;rw[f3 _ hbound,if_neg,c1];rintro⟨h5,h6⟩;rw[hnl]at h6;apply hi;constructor
   .apply Nat.le_of_not_lt;intro hlt;have:(i+1)* es<=lo*es:=nr _ oZg
    grind
   .apply Nat.lt_of_not_le;intro hle;have:(lo+extra.length)* es<=i*es:=nr _ hle
    grind) q1 q2 q3 (aiL (KV _ _).symm)
 refine⟨_,this.1,?_,this.2⟩;rw[bz,hO.head,hlen]
def ZL(H:av X m st a w){n es:Nat}{nl:Option Bool}{cap:Option Nat}{rows:List (List C)}(hR:st.roots n=.sl true nl es cap rows){b off k:Nat}{arr:Array Value}{elem:TypeId}{D:Nat}(hO:SP X m st w n es nl cap rows b off k arr elem D)(hk:k≠0)
  {h:Nat} (h1:rows.length<=h) (h2:h<=k):
  ∃m',av X m' (dt n es nl cap (frzRows rows++List.replicate (h-rows.length) (List.replicate es .dead)) st) a w/\m' n []=.slice (some ⟨b,off,none⟩) h k ∧
   eL X m st w m' (dt n es nl cap (frzRows rows++List.replicate (h-rows.length) (List.replicate es .dead)) st) w [n]:=by
 have hlen:(frzRows rows++List.replicate (h-rows.length) (List.replicate es C.dead)).length=h:=by grind[mZ]
 have:=H.rewrite (w':=w) (D:=D) hR hO.head hk (rows':=frzRows rows++List.replicate (h-rows.length) (List.replicate es .dead)) oZg oZg (by
  intro row hr;rcases cJ.1 hr with hr2|hr2
  .simp only[frzRows,cH]at hr2;obtain⟨r,hr3,rfl⟩:=hr2;simp[hO.lens r hr3]
  simp_all) hO.heap hO.fit rfl (fun _ _=>rfl) (by
  intro i j row c f1 f2;by_cases hi:i <(frzRows rows).length
  .rw[na hi]at f1;exact hO.cell i j row c f1 f2
  .have hil:i<h:=oZi;rw[ni oZg]at f1;have hrow:=xB (cd f1);subst hrow;have hc:=xB (cd f2);subst hc;have hj:j<es:=oZi;have hbound:off+i*es+j<arr.size:=by
    have h5:(i+1)* es<=k*es:=nr _ oZg;rw[nH]at h5;have:=hO.fit;omega
   exact⟨arr[off+i*es+j],by simp[hbound],.inl ⟨rfl,hO.pos⟩⟩) rfl rfl rfl
 refine⟨_,this.1,?_,this.2⟩;rw[bz,hlen]
def NZ(k:Nat):C->C
 | .pal n p lo _ cap=>.pal n p lo k cap
 | .sl own nl es cap rows=>.sl own nl es cap (rows.take k)
 | c=>c
def Hy(d:Option Tmp)(es:Nat)(dst src:C)(st:St):Option St:=
 match z7 src,dst with
 | some ls,.pal n [] lo len _=>match st.roots n with
  | .sl true nl es' cap rows=>if es'=es/\es≠0/\rows.all (·.all uk)=true then
    match j8 st es (NZ (min ls len) src)with
    | some extra=>some ((dt n es nl cap (aR (frzRows rows) lo extra) st).put d (.val (.int .i64 (min ls len:Nat))))
    | none=>none
   else none
  | _=>none
 | _,_=>none
def afb{src:C}{u:Value}(hs:aF X m st w src u){ls k:Nat}(hl:z7 src=some ls)(hk:k<=ls):∃ad kk,u=.slice ad ls kk/\aF X m st w (NZ k src) (.slice ad k kk):=by
 cases src with
 | val v=>
  obtain rfl:=hs.of_val;have:u=.slice none 0 0/\ls=0:=by
   grind[z7]
  obtain⟨rfl,rfl⟩:=this;obtain rfl:k=0:=oZg;exact⟨none,0,rfl,1,rfl⟩
 | sl own nl es cap rows=>
  simp only[z7,cc]at hl;subst hl;obtain⟨d,hs⟩:=hs;cases d with
  | zero=>exact hs.elim
  | succ d=>
   obtain⟨ad,kk,h1,h2,h3,h4,hz,h5,h6,h7⟩:=hs;refine⟨ad,kk,h1,d+1,ad,kk,oZf,oZd,h3,h4,hz,fun row hr=>h5 row (nJ hr),oZk,?_⟩
   grind
 | pal n p lo len cap=>
  simp only[z7,cc]at hl;subst hl;obtain⟨d,hs⟩:=hs;cases d with
  | zero=>exact hs.elim
  | succ d=>
   obtain⟨nl,es,cap',rows,a1,k1,a',k',f1,f2,f3,f4,f5,f6,f7,f8,f9⟩:=hs;exact⟨a',k',f4,1,nl,es,cap',rows,a1,k1,a',k',f1,f2,oZg,rfl,oZg,f6,f7,f8,f9⟩
 | _=>grind[z7]
def FD(H:av X m st a w){n es:Nat}{nl:Option Bool}{cap:Option Nat}(hR:st.roots n=.sl true nl es cap []):av X m (dt n es nl cap [] st) a w:=by
 have:upd st.roots n (.sl true nl es cap [])=st.roots:=by
  funext y
  simp_all[upd]
 unfold dt;rw[this];refine H.forget _ oZk ?_;intro t c hc;simp only[cz,cq]at hc;obtain⟨c0,h0,rfl⟩:=hc
 grind[ld]
def aeb{E:Env}(hT:TOk P E)(H:av X m st a w){t tx ty:Nat}{ti tix:TI}(hti:fc P t ti)(htix:fc P tx tix){e es:Nat}(hkind:ti.kind=.slice e es)(hkindx:tix.kind=.slice e es){dst src:C}{ud us:Value}(hd:aF X m st w dst ud)(hs:aF X m st w src us){d:Option Tmp}{st':St}(hp:Hy d es dst src st=some st'):
  ∃u w',(Builtin.copy_ #[t,tx] ty #[ud,us]).run P w=.ok u w'/\∃m',av X m' st' (a.put d u) w':=by
 unfold Hy at hp;split at hp
 case h_2=>simp at hp
 rename_i ls n lo len cp hls;split at hp
 case h_2=>simp at hp
 rename_i nl es' cap rows hR;split at hp
 case isFalse=>simp at hp
 rename_i hc;obtain⟨rfl,hes,hall⟩:=hc;split at hp
 case h_2=>simp at hp
 rename_i extra hx;simp only[cc]at hp;subst hp;obtain⟨ad,kk,rfl,hcut⟩:=afb hs hls (Nat.min_le_left ls len);obtain⟨news,D2,hS⟩:=Bh hT H htix hkindx hes hcut hx;have hsrc:=hS.src w rfl;have hxl:extra.length=min ls len:=by
  have:=hsrc.len w
  simp_all[Builtin.lenOf]
 obtain⟨dd,hd⟩:=hd;cases dd with
 | zero=>exact hd.elim
 | succ dd=>
 obtain⟨nl2,es2,cap2,rows2,a1,k1,a',k',f1,f2,f3,rfl,f5,f6,f7,f8,f9⟩:=hd;rw[hR]at f1;simp only[C.at,cc,C.sl.injEq,true_and]at f1;obtain⟨rfl,rfl,rfl,rfl⟩:=f1;obtain⟨ad0,k0,g1,g2,g3,g4,g5,g6⟩:=Jc H hR;rw[f2]at g1;simp only[Value.slice.injEq,true_and]at g1;obtain⟨rfl,rfl⟩:=g1;obtain⟨dsc,hu,_,hkd⟩:=hti.und;rw[hkind]at hkd;obtain⟨rfl,ie,hie,hiesz⟩:=hkd;have hfc:(Builtin.firstCells es' (min ls len) (.slice ad ls kk)).run P w=.ok news.toArray w:=by
  have:=hsrc.cells;rw[hxl]at this;cases ad<;>exact this
 have hmin:Nat.min ls len=min ls len:=rfl;have hrun:∀w',(∀ax,a'=some ax->(storeCells ax news).run P w=.ok () w')->(a'=none->w'=w)->(Builtin.copy_ #[t,tx] ty #[.slice a' len k',.slice ad ls kk]).run P w=.ok (.int .i64 (min ls len:Nat)) w':=by
  intro w' h1 h2;cases ha:a' with
  | none=>
   simp_all[Builtin.copy_,run_underlying,Builtin.lenOf,sizeOf,typeInfo,goInt]
  | some ax=>
   simp_all[Builtin.copy_,run_underlying,Builtin.lenOf,sizeOf,typeInfo,goInt]
 by_cases hk:k1=0
 .
  have hrows:rows=[]:=nb oZg;subst hrows;have hlen0:len=0:=oZg;subst hlen0;have hex:extra=[]:=nb oZg;subst hex;have hnews:news=[]:=nb (by simpa using hS.len);subst hnews;refine⟨_,w,hrun w (fun _ _=>rfl) (fun _=>rfl),m,?_⟩;have h0:=FD H hR;have e:aR (frzRows []) lo []=([]:List (List C)):=by simp[aR,frzRows]
  rw[e];exact h0.put d (k:=1) rfl
 .obtain⟨b,off,arr,elem,D,rfl,hO⟩:=g6 hk hall;have hfit:lo+extra.length<=rows.length:=oZg;obtain⟨m',M1,M2,M3⟩:=Rp H hR hO hk (extra:=extra) (news:=news) (D2:=D2) (lo:=lo) hfit hS.len hS.rows hS.cell;refine⟨_,_,hrun (w.setCells b (off+lo*es') news) ?_ ?_,m',M1.put d (k:=1) rfl⟩
  .intro ax hax;rcases f9 with f9|⟨b2,off2,q1,q2⟩
   .
    have hlen0:len=0:=oZg;have hex:extra=[]:=nb oZg;subst hex;have hnews:news=[]:=nb (by simpa using hS.len);subst hnews;rfl
   .simp only[cc,Addr.mk.injEq,and_true]at q1;obtain⟨rfl,rfl⟩:=q1;rw[hax]at q2;simp only[cc]at q2;subst q2;have hbound:∀j,j<news.length->off+lo*es'+j<arr.size:=by
     intro j hj;rw[hS.len]at hj;have h5:(lo+extra.length)* es'<=k1*es':=nr _ oZg;rw[nH]at h5;have:=hO.fit;omega
    have:=run_storeCells_cells (P:=P) b (off+lo*es') news 0 w (fun j hj=>by
     rw[mu hO.heap]
     simp_all) (fun j hj=>by simp[World.frozen?,hO.heap]) hsrc.one
    omega
  .intro hnone;rcases f9 with f9|⟨b2,off2,q1,q2⟩
   .have hlen0:len=0:=oZg;have hex:extra=[]:=nb oZg;subst hex;have hnews:news=[]:=nb (by simpa using hS.len);subst hnews;rfl
   simp_all
end
def zM(d es:Nat)(s x:C)(st:St):Option St:=
 match s,j8 st es x with
 | .pal n [] lo len cp,some extra=>match st.roots n with
  | .sl true nl es' cap rows=>if es'=es/\es≠0/\lo+len<rows.length/\rows.all (·.all uk)=true/\lo+len+extra.length<=rows.length/\(∀c∈cp,len+extra.length<=c)then
    some ((dt n es nl cap (aR (frzRows rows) (lo+len) extra) st).put (some d) (.pal n [] lo (len+extra.length) cp))
   else none
  | _=>none
 | _,_=>none
def Hw(cp cap:Option Nat)(lo:Nat):Option Nat:=
 match cp with
 | some c=>some c
 | none=>cap.map (· - lo)
def C8(d es:Nat)(x hi:C)(st:St):Option St:=
 match x,AA hi with
 | .pal n [] lo len cp,some h=>match st.roots n with
  | .sl true nl es' cap rows=>match Hw cp cap lo with
   | some kk=>if es'=es/\es≠0/\rows.all (·.all uk)=true/\rows.length<=lo+h/\h<=kk then
     some ((dt n es nl cap (frzRows rows++List.replicate (lo+h-rows.length) (List.replicate es .dead)) st).put (some d) (.pal n [] lo h cp))
    else none
   | none=>none
  | _=>none
 | _,_=>none
section
variable {X:Ctx} {m:Nat->aq->Value} {st:St} {a:Act} {w:World} {P:Program}
def Qb(H:av X m st a w){n lo len es:Nat}{cp cap:Option Nat}{nl:Option Bool}{rows:List (List C)}{u:Value}(hR:st.roots n=.sl true nl es cap rows)(hd:aF X m st w (.pal n [] lo len cp) u):
  ∃ad k a' k',m n []=.slice ad rows.length k/\rows.length<=k/\lo+len<=rows.length/\u=.slice a' len k'/\len<=k'/\lo+k'<=k/\(∀c,cp=some c->k'=c)/\(cp=none->lo+k'=k)/\(∀c,cap=some c->k=c)∧
   (k'=0∨∃b off,ad=some ⟨b,off,none⟩/\a'=some ⟨b,off+lo*es,none⟩)∧
   (k≠0->rows.all (·.all uk)=true->∃b off arr elem D,ad=some ⟨b,off,none⟩/\SP X m st w n es nl cap rows b off k arr elem D):=by
 obtain⟨dd,hd⟩:=hd;cases dd with
 | zero=>exact hd.elim
 | succ dd=>
 obtain⟨nl2,es2,cap2,rows2,a1,k1,a',k',f1,f2,f3,rfl,f5,f6,f7,f8,f9⟩:=hd;simp only[C.at,cc,C.sl.injEq,true_and]at f1;obtain⟨ad0,k0,g1,g2,g3,g4,g5,g6⟩:=Jc H hR
 grind
def Vh{E:Env}(hT:TOk P E)(H:av X m st a w){t tx ty:Nat}{ti tix:TI}(hti:fc P t ti)(htix:fc P tx tix){e es:Nat}(hkind:ti.kind=.slice e es)(hkindx:tix.kind=.slice e es){s x:C}{us ux:Value}(hs:aF X m st w s us)(hx:aF X m st w x ux){d:Nat}{st':St}(hp:zM d es s x st=some st'):
  ∃u w',(Builtin.append_ #[t,tx] ty #[us,ux]).run P w=.ok u w'/\∃m',av X m' st' (a.put (some d) u) w':=by
 unfold zM at hp;split at hp
 case h_2=>simp at hp
 rename_i n lo len cp extra hsr;split at hp
 case h_2=>simp at hp
 rename_i nl es' cap rows hR;split at hp
 case isFalse=>simp at hp
 rename_i hc;obtain⟨rfl,hes,_,hall,hroom,hcp⟩:=hc;simp only[cc]at hp;subst hp;obtain⟨news,D2,hS⟩:=Bh hT H htix hkindx hes hx hsr;obtain⟨ad,k,a',k',g1,g2,g3,rfl,g5,g6,g7,g8,g9,g10,g11⟩:=Qb H hR hs;obtain⟨dsc,hu,_,hkd⟩:=hti.und;rw[hkind]at hkd;obtain⟨rfl,ie,hie,hiesz⟩:=hkd;have hfit:len+extra.length<=k':=by
  cases cp with
  | none=>grind
  | some c=>simp_all
 have hview:∀m',m' n []=m n []->aF X m' (dt n es' nl cap (aR (frzRows rows) (lo+len) extra) st) w (.pal n [] lo (len+extra.length) cp) (.slice a' (len+extra.length) k'):=by
  intro m' hm';have hl:=Ll (rows:=frzRows rows) (lo:=lo+len) (extra:=extra) (by rw[mZ];omega);rw[mZ]at hl;exact⟨1,nl,es',cap,_,ad,k,a',k',by simp[dt,aI,C.at];rfl,oZf,oZg,rfl,hfit,g6,g7,g8,g10⟩
 by_cases hk:k=0
 .omega
 .obtain⟨b,off,arr,elem,D,rfl,hO⟩:=g11 hk hall;obtain⟨m',M1,M2,M3⟩:=Rp H hR hO hk (extra:=extra) (news:=news) (D2:=D2) (lo:=lo+len) hroom hS.len hS.rows hS.cell;have hv:=hview m' M2;by_cases hk':k'=0
  .have hex:extra=[]:=nb oZg;subst hex;have hnews:news=[]:=nb (by simpa using hS.len);subst hnews;have hrun:=run_append_nothing (P:=P) w t tx ty e ie hu hie a' len k' g5 ux (by have:=hS.src w rfl;simp_all);obtain⟨dd,hr⟩:=hv;refine⟨_,w,hrun,m',M1.put (some d) (k:=dd) ?_⟩;exact hr
  .rcases g10 with g10|⟨b2,off2,q1,q2⟩
   .omega
   .obtain⟨rfl,rfl⟩:=q1;subst q2;have hbound:∀j,j<news.length->off+lo*es'+len*es'+j<arr.size:=by
     intro j hj;rw[hS.len]at hj;have h5:(lo+len+extra.length)* es'<=k*es':=nr _ oZg;rw[nH,nH]at h5;have:=hO.fit;omega
    have hrun:=run_append_room_src (P:=P) w t tx ty e ie hu hie b (off+lo*es') len k' ux extra.length news (by rw[hiesz];exact hS.src w rfl) hfit (fun j hj=>by
     rw[hiesz,mu hO.heap]
     simp_all) (fun j hj=>by simp[World.frozen?,hO.heap])
    rw[hiesz]at hrun;have eoff:off+lo*es'+len*es'=off+(lo+len)* es':=oZi;rw[eoff]at hrun;obtain⟨dd,hr⟩:=hv;refine⟨_,_,hrun,m',M1.put (some d) (k:=dd) ?_⟩;cases dd with
    | zero=>exact hr.elim
    | succ dd=>exact hr
def Z8(H:av X m st a w){t:Nat}{ti:TI}(hti:fc P t ti){e es:Nat}(hkind:ti.kind=.slice e es){x hi:C}{ux uh:Value}(hx:aF X m st w x ux)(hh:aF X m st w hi uh){d:Nat}{st':St}(hp:C8 d es x hi st=some st'):
  ∃u,(Instr.sliceAt t ux none (some uh) none).run P w=.ok u w/\∃m',av X m' st' (a.put (some d) u) w:=by
 unfold C8 at hp;split at hp
 case h_2=>simp at hp
 rename_i n lo len cp h hnat;split at hp
 case h_2=>simp at hp
 rename_i nl es' cap rows hR;split at hp
 case h_2=>simp at hp
 rename_i kk hroom;split at hp
 case isFalse=>simp at hp
 rename_i hc;obtain⟨rfl,hes,hall,hrl,hkk⟩:=hc;simp only[cc]at hp;subst hp;obtain⟨ad,k,a',k',g1,g2,g3,rfl,g5,g6,g7,g8,g9,g10,g11⟩:=Qb H hR hx;obtain⟨dsc,hu,_,hkd⟩:=hti.und;rw[hkind]at hkd;obtain⟨rfl,ie,hie,hiesz⟩:=hkd;have hk':k'=kk:=by
  unfold Hw at hroom;cases cp with
  | some c=>simp_all
  | none=>
   simp only[cq]at hroom
   grind
 have hint:∃ik i,uh=.int ik i/\0<=i/\i.toNat=h:=by
  unfold AA at hnat;split at hnat
  .rename_i ik i;split at hnat
   .rename_i h0;simp only[cc]at hnat;exact⟨ik,i,hh.of_val,h0,hnat⟩
   simp_all
  simp_all
 obtain⟨ik,i,rfl,hi0,hih⟩:=hint;have hrun:(Instr.sliceAt t (.slice a' len k') none (some (.int ik i)) none).run P w=.ok (.slice a' h k') w:=by
  have hle:i<=(k':Int):=oZg;simp only[Instr.sliceAt,Instr.slice,Sem.run_bind,run_underlying hu,Result.andThen_ok,Instr.sliceBounds,Sem.run_pure,Instr.sliceBound,asIntOf];simp[hi0,hle,hih,sizeOf,typeInfo,hie];rcases g10 with g10|⟨b,off,_,rfl⟩
  .omega
  .simp[Addr.add_lit]
 refine⟨_,hrun,?_⟩;have hview:∀m',m' n []=.slice ad (frzRows rows++List.replicate (lo+h-rows.length) (List.replicate es' C.dead)).length k->aF X m' (dt n es' nl cap (frzRows rows++List.replicate (lo+h-rows.length) (List.replicate es' .dead)) st) w (.pal n [] lo h cp) (.slice a' h k'):=by
  intro m' hm';exact⟨1,nl,es',cap,_,ad,k,a',k',by simp[dt,aI,C.at],hm',by grind[mZ],rfl,oZg,g6,g7,g8,g10⟩
 by_cases hk:k=0
 .have hrows:rows=[]:=nb oZg;subst hrows;have h0:lo+h=0:=oZg;have e0:frzRows []++List.replicate (lo+h -([]:List (List C)).length) (List.replicate es' C.dead)=[]:=by simp[frzRows,h0]
  rw[e0]at hview ⊢;obtain⟨dd,hr⟩:=hview m (by rw[g1]);exact⟨m,(FD H hR).put (some d) hr⟩
 .obtain⟨b,off,arr,elem,D,rfl,hO⟩:=g11 hk hall;obtain⟨m',M1,M2,M3⟩:=ZL H hR hO hk (h:=lo+h) hrl oZg;obtain⟨dd,hr⟩:=hview m' (by rw[M2];congr 1;simp[mZ];omega);exact⟨m',M1.put (some d) hr⟩
def yM(st:St):C->Option Nat
 | .val (.slice none 0 0)=>some 0
 | .sl _ _ _ cap _=>cap
 | .pal n p lo _ cp=>match st.node n p with
  | some (.sl true _ _ cap _)=>Hw cp cap lo
  | _=>none
 | _=>none
theorem Aq(z:Array Value)(n x:Nat)(h:x<n*z.size):(Builtin.zeroCells z n)[x]?=z[x % z.size]?:=by
 grind[Nat.mod_lt,Builtin.zeroCells]
inductive Ext where
 | zeros (k:Nat)
 | list (l:List (List C))
def Ext.all(te:TI):Ext->List (List C)
 | .zeros k=>List.replicate k (te.zero.map .val)
 | .list l=>l
def I8(st:St)(es:Nat)(tix:TI)(x:C):Option Ext:=
 match tix.kind with
 | .int _=>(AA x).map .zeros
 | .slice _ es'=>if es'=es then(j8 st es x).map .list else none
 | _=>none
def ja(d es:Nat)(te tix:TI)(s x:C)(st:St):Option St:=
 match yM st s,j8 st es s,I8 st es tix x with
 | some kk,some olds,some ex=>if kk<olds.length+(ex.all te).length/\es≠0/\d<H0/\(olds.length+(ex.all te).length)*(te.bytes-1+1)<=140737488355328 then
   some {tmps:=(st.fresh d).tmps.set d (.pal d [] 0 (olds++ex.all te).length none),roots:=upd (st.fresh d).roots d (.sl true none es none (olds++ex.all te))}
  else none
 | _,_,_=>none
def UD(H:av X m st a w){s:C}{us:Value}(hs:aF X m st w s us){kk:Nat}(hroom:yM st s=some kk):∃ad len,us=.slice ad len kk/\len<=kk:=by
 unfold yM at hroom;split at hroom
 .simp only[cc]at hroom;subst hroom;obtain rfl:=hs.of_val
  simp_all
 .obtain⟨d,hs⟩:=hs;cases d with
  | zero=>exact hs.elim
  | succ d=>
   obtain⟨ad,k,h1,h2,h3,h4,_⟩:=hs
   grind
 .rename_i n p lo len cp;split at hroom
  .rename_i nl es' cap rows hn;obtain⟨nl2,es2,cap2,rows2,a1,k1,a',k',f1,f2,f3,rfl,f5,f6,f7,f8,f9⟩:=eD hs;have hn':(st.roots n).at p=some (.sl true nl es' cap rows):=hn;have hk:k'=kk:=by
    unfold Hw at hroom;cases cp with
    | some c=>simp_all
    | none=>
     simp only[cq]at hroom;obtain⟨u0,d0,hr0⟩:=H.root n;obtain⟨u1,d1,hr1⟩:=A8 p hr0 hn';obtain⟨a2,k2,D2,e1,e2,e3,e4,e5,_⟩:=ei hr1
     grind
   grind
  simp_all
 simp_all
def abc{E:Env}(hT:TOk P E)(H:av X m st a w){t:Nat}{ti:TI}(hti:fc P t ti){e es:Nat}(hkind:ti.kind=.slice e es)(hes:es≠0){s:C}{us:Value}(hs:aF X m st w s us){kk:Nat}{olds:List (List C)}(hroom:yM st s=some kk)(hold:j8 st es s=some olds):
  ∃ad news D,us=.slice ad olds.length kk/\olds.length<=kk/\FN P X m st w es t us olds news D:=by
 obtain⟨news,D,hS⟩:=Bh hT H hti hkind hes hs hold;have hlen:=(hS.src w rfl).len w;obtain⟨ad,len,rfl,hle⟩:=UD H hs hroom;simp only[Builtin.lenOf,Sem.run_pure,Result.ok.injEq,and_true]at hlen
 grind
def H8{E:Env}(hT:TOk P E)(H:av X m st a w){t tx ty:Nat}{ti tix te:TI}(hti:fc P t ti)(htix:fc P tx tix){e es:Nat}(hkind:ti.kind=.slice e es)(hte:fc P e te){s x:C}{us ux:Value}(hs:aF X m st w s us)(hx:aF X m st w x ux){d:Nat}{st':St}(hp:ja d es te tix s x st=some st'):
  ∃u w',(Builtin.append_ #[t,tx] ty #[us,ux]).run P w=.ok u w'/\∃m',av X m' st' (a.put (some d) u) w':=by
 unfold ja at hp;split at hp
 case h_2=>simp at hp
 rename_i kk olds ex hroom hold hex;split at hp
 case isFalse=>simp at hp
 rename_i hc;obtain⟨hlt,hes,hdH,hb⟩:=hc;simp only[cc]at hp;subst hp;obtain⟨ad,oldV,D1,rfl,hle,hO⟩:=abc hT H hti hkind hes hs hroom hold;obtain⟨dsc,hu,_,hkd⟩:=hti.und;rw[hkind]at hkd;obtain⟨rfl,ie0,hie0,hiesz0⟩:=hkd;obtain⟨i,hi,hi1,hi2,z,hzz,hzc⟩:=hte.info;rw[hi]at hie0;cases hie0;have hzs:z.cells.size=es:=by rw[<-xJ,hzc,hte.zlen,<-hi1,hiesz0]
 have hbb:(olds.length+(ex.all te).length)* te.bytes<=140737488355328/\olds.length+(ex.all te).length<=140737488355328:=Q4 hb;obtain⟨h1,hd⟩:=sd H d;have hon:=uw H hdH;have hge:=grownCap_ge w (olds.length+(ex.all te).length) kk e;have hlemax:=grownCap_le_maxLen w (olds.length+(ex.all te).length) kk e (by grind[maxLen]);have run:∃(news:List Value) (D2:Nat),news.length=(ex.all te).length*es/\(∀row∈ex.all te,row.length=es)∧
   (∀(i j:Nat) (row:List C) (c:C),(ex.all te)[i]?=some row->row[j]?=some c->∃v,news[i*es+j]?=some v/\bL w (X.S st.roots m) D2 c v)∧
   ∃arr:Array Value,(Builtin.append_ #[t,tx] ty #[.slice ad olds.length kk,ux]).run P w=.ok (.slice (some ⟨w.heap.size,0,none⟩) (olds.length+(ex.all te).length) (grownCap w (olds.length+(ex.all te).length) kk e)) (w.drew.alloc (.cells arr e))∧
    arr.size=grownCap w (olds.length+(ex.all te).length) kk e*es/\∀x,x <(oldV++news).length->arr[x]?=(oldV++news)[x]?:=by
  have holdrun:=(hO.src w rfl).cellsD;unfold I8 at hex;split at hex
  .
   rename_i ik hk;simp only[cq]at hex;obtain⟨k,hnat,rfl⟩:=hex;have hint:∃ik' v,ux=.int ik' v/\0<=v/\v.toNat=k:=by
    unfold AA at hnat;split at hnat
    .rename_i ik' v;split at hnat
     .rename_i h0;simp only[cc]at hnat;exact⟨ik',v,hx.of_val,h0,hnat⟩
     simp_all
    simp_all
   obtain⟨ik',v,rfl,hv0,hvk⟩:=hint;have hv:v=(k:Int):=oZg;subst hv;obtain⟨dx,hux,_,hkx⟩:=htix.und;rw[hk]at hkx;have hkx:dx=.int ik:=hkx;subst hkx;simp only[Ext.all,xk]at hlt hb hbb hge hlemax ⊢;have hkp:0<k:=oZg;have hrun:=Lib.run_append_grow_zeros (P:=P) w t tx ty e ie0 z ik' ik hu hux hi hzz ad olds.length kk oldV oZf k hkp oZg hlt oZg (by
    grind) (growslice_fits hlt oZf)
   refine⟨(Builtin.zeroCells z.cells k).toList,1,by simp[size_zeroCells,hzs],?_,?_,_,hrun,?_,?_⟩
   .grind
   .intro i' j row c h1 h2;have hr:=xB (cd h1);have hik:i'<k:=oZi;subst hr;simp only[cz,cq]at h2;obtain⟨vz,h2,rfl⟩:=h2;have hj:j<es:=oZi;have hlt2:i'*es+j<k*z.cells.size:=by
     rw[hzs];have:(i'+1)* es<=k*es:=nr _ oZg
     grind
    refine⟨vz,?_,bL.val (hte.zone vz (cd h2))⟩
    grind[Aq,Nat.mul_comm,Nat.mul_add_mod,Nat.mod_eq_of_lt]
   .simp only[xQ,xg,hO.len,size_zeroCells,hzs,<-nH]
    simp_all
   grind
  .
   rename_i e' es' hk;split at hex
   case isFalse=>simp at hex
   rename_i hee;subst hee;simp only[cq]at hex;obtain⟨extra,hsr,rfl⟩:=hex;simp only[Ext.all]at hlt hb hbb hge hlemax ⊢;obtain⟨news,D2,hS⟩:=Bh hT H htix hk hes hx hsr;have hrun:=run_append_grow_src (P:=P) w t tx ty e ie0 z hu hi hzz ad olds.length kk oldV oZf ux extra.length news (by rw[hiesz0];exact hS.src w rfl) hlt oZg (growslice_fits hlt oZf);refine⟨news,D2,hS.len,hS.rows,hS.cell,_,hrun,?_,?_⟩
   .simp only[xQ,xg,nc,hO.len,hS.len,size_zeroCells,hzs,<-nH]
    simp_all
   grind
  simp_all
 obtain⟨news,D2,n1,n2,n3,arr,hrun,hasz,harr⟩:=run;refine⟨_,_,hrun,?_⟩;have hS1:∀b,b<w.heap.size->X.S st.roots m b->X.S (st.fresh d).roots m b:=hon.S;have hlenall:(olds++ex.all te).length=olds.length+(ex.all te).length:=oZk;obtain⟨R1,R2⟩:=h1.newRoot (d:=d) hd (w':=w.drew.alloc (.cells arr e)) (D:=max D1 D2) (arr:=arr) (elem:=e) (rows:=olds++ex.all te) (es:=es) (k:=grownCap w (olds.length+(ex.all te).length) kk e) (cap:=none) rfl rfl rfl rfl oZg hlemax oZk (by
   intro row hr;rcases cJ.1 hr with h|h
   .exact hO.rows row h
   simp_all) oZg (by
   intro i' j row c f1 f2;by_cases hi':i'<olds.length
   .rw[na hi']at f1;obtain⟨v,c1,c2⟩:=hO.cell i' j row c f1 f2;have hlt2:=(cg.1 c1).1;refine⟨v,?_,(c2.mono hS1).deeper (xI _ _)⟩
    grind
   .rw[ni oZg]at f1;obtain⟨v,c1,c2⟩:=n3 _ j row c f1 f2;have hlt2:=(cg.1 c1).1;have e1:i'*es+j=oldV.length+((i'-olds.length)* es+j):=by
     rw[hO.len,<-nw,<-nH];simp_all
    refine⟨v,?_,(c2.mono hS1).deeper (xy _ _)⟩
    simp_all)
 have hv:=qs (X:=X) (m:=mP m d (.slice (some ⟨w.heap.size,0,none⟩) (olds++ex.all te).length (grownCap w (olds.length+(ex.all te).length) kk e))) (st:={(st.fresh d)with roots:=upd (st.fresh d).roots d (.sl true none es none (olds++ex.all te))}) (w:=w.drew.alloc (.cells arr e)) (d:=d) (es:=es) (cap:=none) (nl:=none) (rows:=olds++ex.all te) (ad:=some ⟨w.heap.size,0,none⟩) (k:=grownCap w (olds.length+(ex.all te).length) kk e) (by simp[aI]) (by rw[bz]) oZg (.inr ⟨_,_,rfl⟩);rw[<-hlenall];rw[hlenall]at R1 hv ⊢;obtain⟨dd,hr⟩:=hv;exact⟨_,R1.put (some d) hr⟩
def Dt(d es:Nat)(x lo hi:C)(st:St):Option St:=
 match x with
 | .pal n [] lo0 len none=>match st.roots n with
  | .sl true nl es' cap rows=>if es'=es then match wq (rows.length-lo0) none (some lo) (some hi) none with
    | some (l,h,_)=>some (st.put (some d) (.pal n [] (lo0+l) (h-l) none))
    | none=>none
   else none
  | _=>none
 | _=>none
def YE(H:av X m st a w){t:Nat}{ti:TI}(hti:fc P t ti){e es:Nat}(hkind:ti.kind=.slice e es){x lo hi:C}{ux ul uh:Value}(hx:aF X m st w x ux)(hl:aF X m st w lo ul)(hh:aF X m st w hi uh){d:Nat}{st':St}(hp:Dt d es x lo hi st=some st'):
  ∃u,(Instr.sliceAt t ux (some ul) (some uh) none).run P w=.ok u w/\∃m',av X m' st' (a.put (some d) u) w:=by
 obtain⟨dsc,hd,hagg,hk⟩:=hti.und;rw[hkind]at hk;obtain⟨rfl,ie,hi1,hi2⟩:=hk;have hsz:(sizeOf e).run P w=.ok es w:=by simp_all[sizeOf,typeInfo]
 unfold Dt at hp;split at hp
 case h_2=>simp at hp
 rename_i n lo0 len;split at hp
 case h_2=>simp at hp
 rename_i nl es' cap rows hR;split at hp
 case isFalse=>simp at hp
 rename_i hes;subst hes;split at hp
 case h_2=>simp at hp
 rename_i l h c' hb;simp only[cc]at hp;subst hp;obtain⟨nl',es'',cap'',rows',a0,k0,a',k',g1,g2,g3,rfl,g5,g6,g7,g8,g9⟩:=eD hx;have hn':(st.roots n).at []=some (.sl true nl es' cap rows):=by rw[hR];rfl
 rw[hn']at g1;simp only[cc,C.sl.injEq,true_and]at g1;obtain⟨rfl,rfl,rfl,rfl⟩:=g1;have hk':lo0+k'=k0:=g8 rfl;obtain⟨ad0,k00,q1,q2,q3,q4,q5,q6⟩:=Jc H hR;rw[g2]at q1;simp only[Value.slice.injEq,true_and]at q1;obtain⟨mm,e1,e2,e3,e4,e5,e6,e7⟩:=Ex (P:=P) (X:=X) (m:=m) (st:=st) (w:=w) (isS:=true) hb (cap:=k') oZk oZg (ul:=some ul) (uh:=some uh) (um:=none)
  (fun c hc=>by simp_all) oZk (fun c hc=>by simp_all) oZk oZk oZk
 have hmm:mm=k':=by
  grind[wq]
 subst hmm;have e1':(Instr.sliceBounds true len mm (some ul) (some uh) none).run P w=.ok (l,h,mm) w:=by
  have:Instr.sliceBounds true len mm (some ul) (some uh) none=Instr.sliceBounds true (rows.length-lo0) mm (some ul) (some uh) none:=rfl;rw[this];exact e1
 have hrun:(Instr.sliceAt t (.slice a' len mm) (some ul) (some uh) none).run P w=.ok (.slice (if mm=l then a' else a'.map (·.add (l*es'))) (h-l) (mm-l)) w:=by
  simp_all[Instr.sliceAt,run_underlying,Instr.slice]
 refine⟨_,hrun,m,H.put (some d) (k:=1) ?_⟩;refine⟨nl,es',cap,rows,a0,k0,(if mm=l then a' else a'.map (·.add (l*es'))),mm-l,hn',g2,oZg,rfl,oZg,oZg,oZk,fun _=>oZg,?_⟩;by_cases hz:mm=l
 .left;omega
 .rcases g9 with g9|⟨b,off,rfl,rfl⟩
  .left;omega
  .simp[hz,Addr.add_lit,nH,nw]
def Ce(es:Nat)(te:TI)(x:C)(st:St):Option St:=
 match x with
 | .pal n [] lo len _=>match st.roots n with
  | .sl true nl es' cap rows=>if es'=es/\es≠0/\rows.all (·.all uk)=true then some (dt n es nl cap (aR (frzRows rows) lo (List.replicate len (te.zero.map .val))) st)else none
  | _=>none
 | _=>none
def acC{E:Env}(H:av X m st a w){t ty:Nat}{ti te:TI}(hti:fc P t ti){e es:Nat}(hkind:ti.kind=.slice e es)(hte:fc P e te){x:C}{ux:Value}(hx:aF X m st w x ux){st':St}(hp:Ce es te x st=some st'):
  ∃u w',(Builtin.clear_ #[t] ty #[ux]).run P w=.ok u w'/\∃m',av X m' st' (a.put none u) w':=by
 unfold Ce at hp;split at hp
 case h_2=>simp at hp
 rename_i n lo len cp;split at hp
 case h_2=>simp at hp
 rename_i nl es' cap rows hR;split at hp
 case isFalse=>simp at hp
 rename_i hc;obtain⟨rfl,hes,hall⟩:=hc;simp only[cc]at hp;subst hp;obtain⟨nl2,es2,cap2,rows2,a1,k1,a',k',f1,f2,f3,rfl,f5,f6,f7,f8,f9⟩:=eD hx;rw[hR]at f1;simp only[C.at,cc,C.sl.injEq,true_and]at f1;obtain⟨rfl,rfl,rfl,rfl⟩:=f1;obtain⟨ad0,k0,g1,g2,g3,g4,g5,g6⟩:=Jc H hR;rw[f2]at g1;simp only[Value.slice.injEq,true_and]at g1;obtain⟨rfl,rfl⟩:=g1;obtain⟨dsc,hu,_,hkd⟩:=hti.und;rw[hkind]at hkd;obtain⟨rfl,ie,hie,hiesz⟩:=hkd;obtain⟨i,hi,hi1,hi2,z,hzz,hzc⟩:=hte.info;rw[hi]at hie;obtain rfl:=cX hie;have hzs:z.cells.size=es':=by rw[<-xJ,hzc,hte.zlen,<-hi1,hiesz]
 have hzv:∀w,(zeroValue e).run P w=.ok z w:=fun w=>by simp_all[zeroValue,typeInfo]
 have zcell:∀i' j,i'<len->j<es'->(Builtin.zeroCells z.cells len)[i'*es'+j]?=te.zero[j]?:=by
  intro i' j h1 h2;have hlt2:i'*es'+j<len*z.cells.size:=by
   have:(i'+1)* es'<=len*es':=nr _ oZg
   grind
  grind[Aq,Nat.mul_comm,Nat.mul_add_mod,Nat.mod_eq_of_lt]
 have zsize:(Builtin.zeroCells z.cells len).toList.length=len*es':=by simp[size_zeroCells,hzs]
 have zone:∀v∈(Builtin.zeroCells z.cells len).toList,v.oneCell'=true:=by
  intro v hv;obtain⟨x,hx⟩:=cC hv;have hlt:=(cg.1 hx).1;rw[aju,Aq _ _ _ oZf,<-aju,hzc]at hx;exact hte.zone v (cd hx)
 have none_:len=0->(Builtin.clear_ #[t] ty #[.slice a' len k']).run P w=.ok (.tuple #[]) w:=by
  rintro rfl;cases a'<;>simp[Builtin.clear_,run_underlying hu]
 by_cases hk:k1=0
 .have hrows:rows=[]:=nb oZg;subst hrows;have hlen0:len=0:=oZg;refine⟨_,w,none_ hlen0,m,?_⟩;have h0:=FD H hR;have e0:aR (frzRows []) lo (List.replicate len (te.zero.map .val))=([]:List (List C)):=by grind[aR,frzRows]
  rw[e0];exact h0
 .obtain⟨b,off,arr,elem,D,rfl,hO⟩:=g6 hk hall;obtain⟨m',M1,M2,M3⟩:=Rp H hR hO hk (extra:=List.replicate len (te.zero.map .val)) (news:=(Builtin.zeroCells z.cells len).toList) (D2:=1) (lo:=lo) oZf oZf (by
   grind) (by
   grind[bL.val])
  by_cases hl0:len=0
  .refine⟨_,w,none_ hl0,m',?_⟩;have e0:(Builtin.zeroCells z.cells len).toList=[]:=nb oZf;rw[e0]at M1;exact M1
  .rcases f9 with f9|⟨b2,off2,q1,q2⟩
   .omega
   .obtain⟨rfl,rfl⟩:=q1;subst q2;have hbound:∀j,j <(Builtin.zeroCells z.cells len).toList.length->off+lo*es'+j<arr.size:=by
     have h5:(lo+len)* es'<=k1*es':=nr _ oZg;rw[nH]at h5;have:=hO.fit;omega
    have hst:=run_storeCells_cells (P:=P) b (off+lo*es') (Builtin.zeroCells z.cells len).toList 0 w (fun j hj=>by
     rw[mu hO.heap]
     simp_all) (fun j hj=>by simp[World.frozen?,hO.heap]) zone
    refine⟨.tuple #[],_,?_,m',M1⟩;simp[Builtin.clear_,run_underlying hu,hzv,hst]
end
def jM(r:C)(m:aq->Value)(b:Nat):Prop:=∃q,ak r q/\blk (m q)=some b
def R0(own:List Bool)(cs:List C):Nat->C:=fun n=>if own.getD n false then(cs[n]?).getD .dead else .dead
def Inj(R:Nat->C)(m:Nat->aq->Value):Prop:=∀n p n' p' b,ak (R n) p->ak (R n') p'->blk (m n p)=some b->blk (m n' p')=some b->n=n'/\p=p'
structure FrK (w:World) (K:Nat->Prop) (w':World):Prop where
 os:w'.os=w.os
 tape:w'.tape=w.tape
 output:w'.output=w.output
 drawn:w.drawn<=w'.drawn
 size:w.heap.size<=w'.heap.size
 block:∀b,b<w.heap.size->¬K b->w'.heap[b]?=w.heap[b]?
def LD(P:Program)(f:FuncId)(us:List Value)(w:World)(Q:Value->World->Prop):Prop:=
 ((callFunc f us.toArray).run P w=.ok (.enter f us.toArray) w/\Calls P f us.toArray w fun e w'=>∃u,e=.returned u/\Q u w')∨
 ∃u w',(callFunc f us.toArray).run P w=.ok (.value u) w'/\Q u w'
def Con(P:Program)(f:FuncId)(own:List Bool)(pure:Bool)(cs:List C)(r:C):Prop:=
 ∀(w:World) (S:Nat->Prop) (m:Nat->aq->Value) (us:List Value),us.length=cs.length ->
  (∀(i:Nat) (c:C),cs[i]?=some c->∃u d,us[i]?=some u/\rel w (fun b=>S b/\¬aJ (R0 own cs) m b) L0 (m i) (own.getD i false) d [] c u)->Inj (R0 own cs) m ->
  LD P f us w fun u w'=>∃mr d,rel w' (fun b=>((pure=false/\(S b∨aJ (R0 own cs) m b))∨w.heap.size<=b)/\¬jM r mr b) L0 mr true d [] r u ∧
   (∀q q' b,ak r q->ak r q'->blk (mr q)=some b->blk (mr q')=some b->q=q')∧
   (∀b,jM r mr b->w.heap.size<=b∨aJ (R0 own cs) m b)/\FrK w (aJ (R0 own cs) m) w'
def Ow(P:Program)(f:FuncId):Prop:=∀(w:World) (x y:Option Addr) (la ka lb kb:Nat),
 (∃b1 o1 arr1 e1 b2 o2 arr2 e2,x=some ⟨b1,o1,none⟩/\y=some ⟨b2,o2,none⟩/\b1≠b2/\w.heap[b1]?=some (.cells arr1 e1 (0,0))/\w.heap[b2]?=some (.cells arr2 e2 (0,0))/\arr2.size≠0) ->
 (callFunc f #[.slice x la ka,.slice y lb kb]).run P w=.ok (.value (.bool false)) w
structure ar (P:Program) (f:FuncId) (fs:FnS):Prop where
 con:∀cs r,fs.fn cs=some r->Con P f fs.own fs.pure cs r
 peek:fs.peek=true->Ow P f
def Rl(k:Nat)(cs:List C):Nat->C:=fun n=>if n<k then(cs[n]?).getD .dead else .dead
def dC:C->Option (Nat×Option Nat)
 | .sl true _ es (some 1) [_]=>some (es,none)
 | .sl true none es none rows=>some (es,some rows.length)
 | _=>none
def Hd(c:C)(u h:Value):Prop:=match dC c with
 | some (_,none)=>∃b off,u=.pointer (some ⟨b,off,none⟩)/\h=.slice (some ⟨b,off,none⟩) 1 1
 | _=>u=h∨∃a a',u=.slice a 0 0/\h=.slice a' 0 0
def qe(P:Program)(f:FuncId)(k:Nat)(cs:List C)(r:C)(ls:List C):Prop:=
 ∀(w:World) (S:Nat->Prop) (m:Nat->aq->Value) (us:List Value),us.length=cs.length ->
  (∀(i:Nat) (c:C),cs[i]?=some c->k<=i->∃u d,us[i]?=some u/\rel w (fun b=>S b/\¬aJ (Rl k cs) m b) L0 dm false d [] c u) ->
  (∀(i:Nat) (c:C),cs[i]?=some c->i<k->∃u d,us[i]?=some u/\Hd c u (m i [])/\rel w (fun b=>S b/\¬aJ (Rl k cs) m b) L0 (m i) true d [] c (m i [])) ->
  Inj (Rl k cs) m ->
  LD P f us w fun u w'=>∃mk:Nat->aq->Value,
   (∃d,rel w' (fun b=>(S b∨aJ (Rl k cs) m b∨w.heap.size<=b)/\¬aJ (Rl k ls) mk b) L0 dm false d [] r u)∧
   (∀(i:Nat) (c:C),ls[i]?=some c->mk i []=m i []/\∃uu d,rel w' (fun b=>(S b∨aJ (Rl k cs) m b∨w.heap.size<=b)/\¬aJ (Rl k ls) mk b) L0 (mk i) true d [] c uu)∧
   Inj (Rl k ls) mk/\(∀b,aJ (Rl k ls) mk b->w.heap.size<=b∨aJ (Rl k cs) m b)/\FrK w (aJ (Rl k cs) m) w'
def agc(P:Program)(f:FuncId)(k:Nat)(cs:List C)(r:C)(ls:List C):Prop:=
 ∀(w:World) (S:Nat->Prop) (m:Nat->aq->Value) (us:List Value),us.length=cs.length ->
  (∀(i:Nat) (c:C),cs[i]?=some c->k<=i->∃u d,us[i]?=some u/\rel w (fun b=>S b/\¬aJ (Rl k cs) m b) L0 dm false d [] c u) ->
  (∀(i:Nat) (c:C),cs[i]?=some c->i<k->∃u d,us[i]?=some u/\Hd c u (m i [])/\rel w (fun b=>S b/\¬aJ (Rl k cs) m b) L0 (m i) true d [] c (m i [])) ->
  Inj (Rl k cs) m ->
  LD P f us w fun u w'=>∃mk:Nat->aq->Value,
   (∃d,rel w' (fun b=>(False∨aJ (Rl k cs) m b∨w.heap.size<=b)/\¬aJ (Rl k ls) mk b) L0 dm false d [] r u)∧
   (∀(i:Nat) (c:C),ls[i]?=some c->mk i []=m i []/\∃uu d,rel w' (fun b=>(False∨aJ (Rl k cs) m b∨w.heap.size<=b)/\¬aJ (Rl k ls) mk b) L0 (mk i) true d [] c uu)∧
   Inj (Rl k ls) mk/\(∀b,aJ (Rl k ls) mk b->w.heap.size<=b∨aJ (Rl k cs) m b)/\FrK w (aJ (Rl k cs) m) w'
def R1(c:C):Nat->C:=fun n=>if n=0 then c else .dead
def agY(P:Program)(f:FuncId)(cs:List C)(r c:C):Prop:=
 ∀(w:World) (S:Nat->Prop) (us:List Value),us.length=cs.length->(∀(i:Nat) (c0:C),cs[i]?=some c0->∃u d,us[i]?=some u/\rel w S L0 dm false d [] c0 u) ->
  LD P f us w fun u w'=>∃mk:aq->Value,
   (∃d,rel w' (fun b=>(S b∨w.heap.size<=b)/\¬jM c mk b) (Lv (R1 c) (fun _=>mk)) dm false d [] r u)∧
   (∃uu d,rel w' (fun b=>(S b∨w.heap.size<=b)/\¬jM c mk b) L0 mk true d [] c uu)∧
   (∀q q' b,ak c q->ak c q'->blk (mk q)=some b->blk (mk q')=some b->q=q')/\(∀b,jM c mk b->w.heap.size<=b)/\FrK w (fun _=>False) w'
structure B1 (P:Program) (f:FuncId) (fl:FnL):Prop where
 con:fl.k≠0->∀cs rest r ls,cs.length=fl.k->fl.fn cs rest=some (r,ls)->qe P f fl.k (cs++rest) r ls
 pur:fl.k≠0->fl.pure=true->∀cs rest r ls,cs.length=fl.k->fl.fn cs rest=some (r,ls)->agc P f fl.k (cs++rest) r ls
 new:fl.k=0->∀rest r c,fl.fn [] rest=some (r,[c])->agY P f rest r c
def GOk(P:Program)(E:Env):Prop:=(∀d f fs,E.G d f=some fs->ar P f fs)/\∀d f fl,E.L d f=some fl->B1 P f fl
def mO(st:St):C->Option C
 | .pal n p lo len cap=>match st.node n p with
  | some (.sl true _ es _ rows)=>some (.sl false none es cap ((rows.drop lo).take len))
  | _=>none
 | .pref n p i j=>match st.node n p with
  | some (.sl true _ es _ rows)=>if rows.length=0 then none else some (.iref es rows i j)
  | _=>none
 | .agg _=>none
 | .tup _=>none
 | .clo _ _=>none
 | c=>some c
def F1(st:St):List C->Option (List C)
 | []=>some []
 | c::cs=>match mO st c,F1 st cs with
  | some c',some cs'=>some (c'::cs')
  | _,_=>none
def Kb(st:St):C->Option C
 | .agg cs=>(F1 st cs).map .agg
 | .clo f cs=>(F1 st cs).map (.clo f)
 | c=>mO st c
def yD(st:St):List C->Option (List C)
 | []=>some []
 | c::cs=>match Kb st c,yD st cs with
  | some c',some cs'=>some (c'::cs')
  | _,_=>none
def oa:C->Bool
 | .pal ..=>true
 | .pref ..=>true
 | _=>false
def ml:C->Bool
 | .pal ..=>true
 | .pref ..=>true
 | .agg cs=>cs.any oa
 | .clo _ cs=>cs.any oa
 | _=>false
def Ip(f:Nat->C->C):Nat->List C->List C
 | _,[]=>[]
 | j,c::cs=>f j c::Ip f (j+1) cs
def lM:Nat->Nat->aq->C->C
 | 0,_,_,_=>.dead
 | _+1,n,p,.sl true _ _ _ rows=>.pal n p 0 rows.length none
 | k+1,n,p,.agg cs=>.agg (Ip (fun j c=>lM k n (p++[(0,j)]) c) 0 cs)
 | k+1,n,p,.tup cs=>.tup (Ip (fun j c=>lM k n (p++[(0,j)]) c) 0 cs)
 | _+1,_,_,c=>c
def G2:Nat->C->Bool
 | 0,_=>true
 | _+1,.sl true _ _ _ _=>true
 | k+1,.agg cs=>cs.any (G2 k)
 | k+1,.tup cs=>cs.any (G2 k)
 | _+1,_=>false
def LJ(d:Nat)(r:C)(st:St):St:=
 if G2 3 r then{tmps:=(st.fresh d).tmps.set d (lM 3 d [] r),roots:=upd (st.fresh d).roots d r}
 else{st with tmps:=st.tmps.set d (lM 3 d [] r)}
section
variable {X:Ctx} {m:Nat->aq->Value} {st:St} {a:Act} {w:World} {P:Program}
def Mv(f:Nat->C->C):∀(cs:List C) (j k:Nat),(Ip f j cs)[k]?=(cs[k]?).map (f (j+k)):=by
 intro cs
 induction cs with
 | nil=>simp_all[Ip]
 | cons c cs ih=>
  intro j k;cases k with
  | zero=>simp[Ip]
  | succ k=>simp only[Ip,nY,ih];grind
def oJ(f:Nat->C->C):∀(cs:List C) (j:Nat),(Ip f j cs).length=cs.length:=by
 intro cs
 induction cs with
 | nil=>intro j;rfl
 | cons c cs ih=>simp_all[Ip]
def tU{S S':Nat->Prop}{m m':aq->Value}(hS:∀b,S b->S' b):∀(d:Nat) {o:Bool} {p p':aq} {c:C} {u:Value},
  (o=true->∀q b,ak c q->blk (m (p++q))=some b->S' b)->rel w S L0 m o d p c u->rel w S' L0 m' false d p' c u:=by
 intro d
 induction d with
 | zero=>intro o p p' c u _ h;exact h.elim
 | succ d ih=>
  intro o p p' c u hO h;cases c with
  | dead=>trivial
  | val v=>exact h
  | sl own nl es cap rows=>
   obtain⟨a,k,h1,h2,h3,h4,hz,h5,h6,h7⟩:=h;refine⟨a,k,h1,h2,h3,h4,hz,h5,oZk,?_⟩;rcases h7 with h7|h7|⟨b,off,arr,elem,frz,g1,g2,g3,g4,g5⟩
   .exact .inl h7
   .simp_all
   .by_cases hk:k=0
    .exact .inl hk
    refine .inr (.inr ⟨b,off,arr,elem,frz,g1,g2,fun _=>?_,oZk,fun i j row c' e1 e2=>?_⟩)
    .cases ho:(own&&o)with
     | false=>simp_all
     | true=>
      simp only[cx]at ho;obtain⟨rfl,rfl⟩:=ho;refine hO rfl [] b rfl ?_;rw[nn,<-h6 rfl,h1,g1];simp[blk,hk]
    .obtain⟨u',e3,e4⟩:=g5 i j row c' e1 e2;refine⟨u',e3,?_⟩;simp only[nX];refine ih (o:=own&&o) (p:=p++[(i,j)]) ?_ e4;intro ho q b' hq hb;simp only[cx]at ho;obtain⟨rfl,rfl⟩:=ho;refine hO rfl ((i,j)::q) b' ?_ oZf
     simp_all[ak,C.at,C.kid]
  | agg cs=>
   obtain⟨arr,h1,h2,h3⟩:=h;refine⟨arr,h1,h2,fun j c' e=>?_⟩;obtain⟨u',e1,e2⟩:=h3 j c' e;refine⟨u',e1,ih (o:=o) (p:=p++[(0,j)]) ?_ e2⟩;intro ho q b' hq hb;refine hO ho ((0,j)::q) b' ?_ oZf
   simp_all[ak,C.at,C.kid]
  | tup cs=>
   obtain⟨arr,h1,h2,h3⟩:=h;refine⟨arr,h1,h2,fun j c' e=>?_⟩;obtain⟨u',e1,e2⟩:=h3 j c' e;refine⟨u',e1,ih (o:=o) (p:=p++[(0,j)]) ?_ e2⟩;intro ho q b' hq hb;refine hO ho ((0,j)::q) b' ?_ oZf
   simp_all[ak,C.at,C.kid]
  | clo f cs=>
   obtain⟨arr,h1,h2,h3⟩:=h;exact⟨arr,h1,h2,fun j c' e=>let⟨u',e1,e2⟩:=h3 j c' e;⟨u',e1,ih (o:=false) (p:=p) (fun h=>by simp at h) e2⟩⟩
  | iref es rows i j=>
   obtain⟨b,off,arr,elem,frz,g1,g2,g3,g4,g5⟩:=h;exact⟨b,off,arr,elem,frz,g1,g2,hS b g3,g4,fun i j row c' e1 e2=>let⟨u',e3,e4⟩:=g5 i j row c' e1 e2;⟨u',e3,ih (o:=false) (p:=p) (fun h=>by simp at h) e4⟩⟩
  | pref n p i j=>exact h.elim
  | pal n p lo len cap=>exact h.elim
def Fc(w:World)(S:Nat->Prop)(c:C)(u:Value):Prop:=∃d,rel w S L0 dm false d [] c u
def tO(N:Nat->Prop)(R:Nat->C)(m:Nat->aq->Value)(b:Nat):Prop:=∃n p,N n/\ak (R n) p/\blk (m n p)=some b
def QV(N:Nat->Prop)(c:C):Prop:=∀d v n p,occ d c v->v.place=some (n,p)->N n
def y4{N:Nat->Prop}(H:av X m st a w){c c':C}{u:Value}(h:aF X m st w c u)(hN:QV N c)(hs:mO st c=some c'):Fc w (fun b=>X.S st.roots m b∨(oa c=true/\tO N st.roots m b)) c' u:=by
 have plain:(∀d,¬ ∃v,occ d c v)->Fc w (fun b=>X.S st.roots m b∨(oa c=true/\tO N st.roots m b)) c u:=by
  intro hno;obtain⟨d,h⟩:=h;exact⟨d,az (fun b _ hb=>⟨.inl hb,rfl⟩) d (fun v u ho _=>(hno d ⟨v,ho⟩).elim) (fun h=>by simp at h) (fun h=>by simp at h) h⟩
 have node:∀{n:Nat} {p:aq},N n->∀{nl:Option Bool} {es:Nat} {cap:Option Nat} {rows:List (List C)},(st.roots n).at p=some (.sl true nl es cap rows)->∀{b off k:Nat} {arr:Array Value} {elem:TypeId} {dd:Nat},m n p=.slice (some ⟨b,off,none⟩) rows.length k->k≠0 ->
   (∀(i j:Nat) (row:List C) (c':C),rows[i]?=some row->row[j]?=some c'->∃u',arr[off+i*es+j]?=some u'/\rel w (X.S st.roots m) L0 (m n) true dd (p++[(i,j)]) c' u') ->
   tO N st.roots m b/\∀(i j:Nat) (row:List C) (c':C),rows[i]?=some row->row[j]?=some c'->∃u',arr[off+i*es+j]?=some u'/\rel w (fun b=>X.S st.roots m b∨(True/\tO N st.roots m b)) L0 dm false dd [] c' u':=by
  intro n p hNn nl es cap rows hn b off k arr elem dd hm hk hc;refine⟨⟨n,p,hNn,by unfold ak;rw[hn];rfl,by simp_all[blk]⟩,?_⟩;intro i j row c' e1 e2;obtain⟨u',e3,e4⟩:=hc i j row c' e1 e2;refine⟨u',e3,tU (fun b hb=>.inl hb) dd ?_ e4⟩;intro _ q b' hq hb';refine .inr ⟨trivial,n,p++(i,j)::q,hNn,?_,oZf⟩
  simp_all[ak,C.at_append,C.at,C.kid]
 cases c with
 | dead=>simp only[mO,cc]at hs;subst hs;exact⟨1,trivial⟩
 | val v=>simp only[mO,cc]at hs;subst hs;exact plain (fun d=>by rintro⟨v,ho⟩;cases d<;>exact ho)
 | sl own nl es cap rows=>simp only[mO,cc]at hs;subst hs;exact plain (fun d=>by rintro⟨v,ho⟩;cases d<;>exact ho)
 | iref es rows i j=>simp only[mO,cc]at hs;subst hs;exact plain (fun d=>by rintro⟨v,ho⟩;cases d<;>exact ho)
 | agg cs=>grind[mO]
 | tup cs=>grind[mO]
 | clo f cs=>grind[mO]
 | pref n p i j=>
  simp only[mO]at hs;split at hs
  .rename_i nl es cap rows hn;split at hs
   .simp at hs
   rename_i hne;simp only[cc]at hs;subst hs;obtain⟨nl',es',cap',rows',b,off,k,f1,f2,rfl⟩:=pf h;have hn':(st.roots n).at p=some (.sl true nl es cap rows):=hn;rw[hn']at f1;simp only[cc,C.sl.injEq,true_and]at f1;obtain⟨rfl,rfl,rfl,rfl⟩:=f1;obtain⟨u0,d0,hr0⟩:=H.root n;obtain⟨u1,d1,hr1⟩:=A8 p hr0 hn';simp only[cO]at hr1;obtain⟨a1,k1,D,e1,e2,e3,e4,e5,ez,e6,e7⟩:=ei hr1;rw[f2]at e2;simp only[Value.slice.injEq]at e2;obtain⟨rfl,_,rfl⟩:=e2;rcases e7 with e7|⟨b',off',arr,elem,g1,g2,g4,g5⟩
   .omega
   .simp only[cc,Addr.mk.injEq]at g1;obtain⟨rfl,rfl,_⟩:=g1;by_cases hk0:k=0
    .omega
    .obtain⟨n1,n2⟩:=node (elem:=elem) (hN 1 _ n p rfl rfl) hn' f2 hk0 g5;exact⟨D+1,b,off,arr,elem,(0,0),rfl,g2,.inr ⟨rfl,n1⟩,e6,by simp_all[oa]⟩
  .simp at hs
 | pal n p lo len cap=>
  simp only[mO]at hs;split at hs
  .rename_i nl es cap' rows hn;simp only[cc]at hs;subst hs;obtain⟨nl',es',cap'',rows',a0,k0,a',k',q1,q2,q3,rfl,q5,q6,q7,q8,q9⟩:=eD h;have hn':(st.roots n).at p=some (.sl true nl es cap' rows):=hn;rw[hn']at q1;simp only[cc,C.sl.injEq,true_and]at q1;obtain⟨rfl,rfl,rfl,rfl⟩:=q1;have hl:((rows.drop lo).take len).length=len:=oZd;obtain⟨u0,d0,hr0⟩:=H.root n;obtain⟨u1,d1,hr1⟩:=A8 p hr0 hn';simp only[cO]at hr1;obtain⟨a1,k1,D,e1,e2,e3,e4,e5,ez,e6,e7⟩:=ei hr1;rw[q2]at e2;simp only[Value.slice.injEq]at e2;obtain⟨rfl,_,rfl⟩:=e2;have hzero:a'=none->k'=0:=by
    grind
   have hes:∀row∈(rows.drop lo).take len,row.length=es:=fun row hr=>e6 row (xK (nJ hr));by_cases hk0:k'=0
   .refine⟨1,a',k',by rw[hl],oZg,oZg,q7,⟨oZk,hzero⟩,hes,oZk,.inl hk0⟩
   .rcases q9 with q9|⟨b,off,rfl,rfl⟩
    .omega
    .rcases e7 with e7|⟨b',off',arr,elem,g1,g2,g4,g5⟩
     .omega
     .simp only[cc,Addr.mk.injEq]at g1;obtain⟨rfl,rfl,_⟩:=g1;obtain⟨n1,n2⟩:=node (elem:=elem) (hN 1 _ n p rfl rfl) hn' q2 oZg g5;refine⟨D+1,_,k',by rw[hl],oZg,oZg,q7,⟨oZk,hzero⟩,hes,oZk,.inr (.inr ⟨b,off+lo*es,arr,elem,(0,0),rfl,g2,fun _=>.inr ⟨rfl,n1⟩,oZk,?_⟩)⟩;intro i j row c' f1 f2;rw[nt]at f1;split at f1
      .rw[nz]at f1;obtain⟨u',f3,f4⟩:=n2 (lo+i) j row c' f1 f2;refine⟨u',oZi,?_⟩;simpa[oa]using bY f4
      .simp at f1
  .simp at hs
end
section
variable {X:Ctx} {m:Nat->aq->Value} {st:St} {a:Act} {w:World} {P:Program}
def Vj{S:Nat->Prop}{L:C->Value->Prop}{m m':aq->Value}{d:Nat}{p p':aq}{c:C}{u:Value}(hc:c.cellOk=true)(h:rel w S L m false d p c u):rel w S L0 m' false d p' c.frz u:=
 tU (m:=m') (p:=p) (fun _ h=>h) d (fun _ q b ho _=>(qM hc ho).elim) (FC hc h)
def av.loose(H:av X m st a w){n:Nat}{q:aq}{b:Nat}(ho:ak (st.roots n) q)(hb:blk (m n q)=some b):X.S (upd st.roots n .dead) m b:=by
 refine⟨(H.own n q b ho hb).elim .inr (fun h=>.inl (X.kS b h)),?_⟩;rintro⟨n',p',ho',hb'⟩;by_cases e:n'=n
 .simp_all[aI,aY]
 .rw[aV e]at ho';exact e (H.inj _ _ _ _ b ho' ho hb' hb).1
def W8{n:Nat}{b:Nat}(h:X.S st.roots m b):X.S (upd st.roots n .dead) m b:=by
 refine⟨h.1,?_⟩;rintro⟨n',p',ho',hb'⟩;by_cases e:n'=n
 .simp_all[aI,aY]
 .rw[aV e]at ho';exact h.2 ⟨n',p',ho',hb'⟩
def YP(H:av X m st a w){n:Nat}{nl:Option Bool}{es:Nat}{cap:Option Nat}{rows:List (List C)}(hR:st.roots n=.sl true nl es cap rows):
  ∃d,rel w (X.S (upd st.roots n .dead) m) L0 dm false d [] (.sl true nl es cap rows) (m n []):=by
 obtain⟨u0,d0,hr0⟩:=H.root n;have hu:u0=m n []:=by
  grind[ei]
 subst hu;refine⟨d0,?_⟩;have:=tU (m':=dm) (p':=[]) (S':=X.S (upd st.roots n .dead) m) (fun b hb=>W8 hb) d0 (fun _ q b ho hb=>H.loose ho oZf) hr0
 simp_all
def aad(H:av X m st a w){n:Nat}{nl:Option Bool}{es:Nat}{cap:Option Nat}{rows:List (List C)}(hR:st.roots n=.sl true nl es cap rows){lo len:Nat}{cp:Option Nat}{u:Value}(hv:Lv st.roots m (.pal n [] lo len cp) u):
  ∃d,rel w (X.S (upd st.roots n .dead) m) L0 dm false d [] (.sl false none es cp ((rows.drop lo).take len)) u:=by
 obtain⟨d,hr⟩:=YP H hR;obtain⟨nl',es',cap',rows',ad,k,a',k',g1,g2,g3,rfl,g5,g6,g7,g8,g9⟩:=hv;rw[hR]at g1;simp only[C.at,cc,C.sl.injEq,true_and]at g1;obtain⟨rfl,rfl,rfl,rfl⟩:=g1;cases d with
 | zero=>exact hr.elim
 | succ d=>
 obtain⟨a1,k1,e1,e2,e3,e4,ez,e5,e6,e7⟩:=hr;rw[g2]at e1;simp only[Value.slice.injEq,true_and]at e1;obtain⟨rfl,rfl⟩:=e1;have hlen:((rows.drop lo).take len).length=len:=oZd;refine⟨d+1,a',k',by rw[hlen],oZg,oZg,g7,⟨oZk,?_⟩,?_,oZk,?_⟩
 .grind
 .grind
 .rcases g9 with g9|⟨b,off,rfl,rfl⟩
  .exact .inl g9
  .by_cases hk:k'=0
   .exact .inl hk
   rcases e7 with e7|⟨_,e7⟩|⟨b',off',arr,elem,frz,f1,f2,f3,f4,f5⟩
   .omega
   .simp_all
   .simp only[cc,Addr.mk.injEq,and_true]at f1;obtain⟨rfl,rfl⟩:=f1;refine .inr (.inr ⟨b,_,arr,elem,frz,rfl,f2,fun _=>f3 oZk,oZk,?_⟩);intro i j row c' h1 h2;rw[nt]at h1;split at h1
    case isFalse=>simp at h1
    rw[nz]at h1;obtain⟨u',k1,k2⟩:=f5 (lo+i) j row c' h1 h2;refine⟨u',?_,bY (by simpa using k2)⟩
    grind
def av.retell(H:av X m st a w){t:Nat}{c:C}{u:Value}(hu:a.tmps[t]?=some u)(hr:aF X m st w c u):av X m {st with tmps:=st.tmps.set t c} a w:=by
 refine⟨by simp[H.len],?_,H.root,H.inj,H.own,H.fr,H.df⟩;intro t' c' hc;simp only[nO]at hc;split at hc
 .rename_i e;subst e;split at hc
  .simp only[cc]at hc;subst hc;obtain⟨d,hd⟩:=hr
   grind
  .simp at hc
 .exact H.tmp t' c' hc
def av.freeze(H:av X m st a w){n t:Nat}{nl:Option Bool}{es:Nat}{cap:Option Nat}{rows:List (List C)}(hR:st.roots n=.sl true nl es cap rows){lo len:Nat}{cp:Option Nat}(ht:st.tmps[t]?=some (.pal n [] lo len cp)):
  av X m {tmps:=(st.tmps.map (poi fun n' _=>n' == n)).set t (.sl false none es cp ((rows.drop lo).take len)),roots:=upd st.roots n .dead} a w:=by
 obtain⟨u,d,h1,h2⟩:=H.tmp t _ ht;have hv:Lv st.roots m (.pal n [] lo len cp) u:=eD ⟨d,h2⟩;obtain⟨d',hr⟩:=aad H hR hv;refine av.retell (st:=st.drop n) (H.drop n) h1 ⟨d',?_⟩;exact az (fun b _ hb=>⟨hb,rfl⟩) d' (fun _ _ _ h=>h.elim) (fun h=>by simp at h) (fun h=>by simp at h) hr
def D5(d es:Nat)(te:TI)(s x:C)(st:St):Option St:=
 match s with
 | .sl false _ es' (some kk) rows=>match j8 st es x with
  | some extra=>if es'=es/\rows.all (·.all C.cellOk)=true/\kk=rows.length/\es≠0/\d<H0/\(rows.length+extra.length)*(te.bytes-1+1)<=140737488355328 then
    some {tmps:=((st.fresh d).tmps.map (poi fun n' _=>n' == d)).set d (.sl false none es none (frzRows rows++extra)),roots:=(st.fresh d).roots}
   else none
  | none=>none
 | _=>none
def W4{E:Env}(hT:TOk P E)(H:av X m st a w){t tx ty:Nat}{ti tix te:TI}(hti:fc P t ti)(htix:fc P tx tix){e es:Nat}(hkind:ti.kind=.slice e es)(hkx:tix.kind=.slice e es)(hte:fc P e te){s x:C}{us ux:Value}(hs:aF X m st w s us)(hx:aF X m st w x ux){d:Nat}{st':St}(hp:D5 d es te s x st=some st'):
  ∃u w',(Builtin.append_ #[t,tx] ty #[us,ux]).run P w=.ok u w'/\∃m',av X m' st' (a.put (some d) u) w':=by
 unfold D5 at hp;split at hp
 case h_2=>simp at hp
 rename_i nl es' kk rows;split at hp
 case h_2=>simp at hp
 rename_i extra hex;split at hp
 case isFalse=>simp at hp
 rename_i hc;obtain⟨rfl,hall,rfl,hes,hdH,hb⟩:=hc;simp only[cc]at hp;subst hp;obtain⟨h1,hd⟩:=sd H d;have hon:=uw H hdH;have hpo:av X m {tmps:=(st.fresh d).tmps.map (poi fun n' _=>n' == d),roots:=(st.fresh d).roots} a w:=by
  refine h1.forget _ oZk ?_;intro t c hc;simp only[cz,cq]at hc;obtain⟨c0,h0,rfl⟩:=hc
  grind[ld]
 by_cases hext:extra=[]
 .subst hext;obtain⟨dd,hs⟩:=hs;cases dd with
  | zero=>exact hs.elim
  | succ dd=>
  obtain⟨ad,k,rfl,e2,e3,e4,ez,e5,e6,e7⟩:=hs;have hk:k=rows.length:=e4 _ rfl;subst hk;obtain⟨dsc,hu,_,hkd⟩:=hti.und;rw[hkind]at hkd;obtain⟨rfl,ie,hie,hiesz⟩:=hkd;obtain⟨news,D,hS⟩:=Bh hT H htix hkx hes hx hex;have hrun:=run_append_nothing (P:=P) w t tx ty e ie hu hie ad rows.length rows.length (ck _) ux (by
   have:=hS.src w rfl;have hn:news=[]:=nb (by simpa using hS.len)
   simp_all)
  refine⟨_,w,hrun,m,?_⟩;refine av.put hpo (some d) (k:=dd+1) ?_;refine⟨ad,rows.length,by simp[frzRows],by simp[frzRows],e3,oZk,⟨oZk,ez.2⟩,?_,oZk,?_⟩
  .intro row hr;simp only[nn,frzRows,cH]at hr;obtain⟨r0,hr0,rfl⟩:=hr;simp[e5 r0 hr0]
  .rcases e7 with e7|⟨_,e7⟩|⟨b,off,arr,elem,frz,f1,f2,f3,f4,f5⟩
   .exact .inl e7
   .simp_all
   .by_cases hr0:rows.length=0
    .omega
    have hbs:b<w.heap.size:=(ng.1 f2).1;refine .inr (.inr ⟨b,off,arr,elem,frz,f1,f2,fun _=>hon.S b hbs (f3 oZk),oZk,?_⟩);intro i j row c' g1 g2;simp only[nn,frzRows,cz,cq]at g1;obtain⟨r0,g1,rfl⟩:=g1;simp only[cz,cq]at g2;obtain⟨c0,g2,rfl⟩:=g2;obtain⟨u',k1,k2⟩:=f5 i j r0 c0 g1 g2;have hok:c0.cellOk=true:=by
     grind
    refine⟨u',k1,?_⟩;have k3:=Vj (m':=dm) (p':=[]++[(i,j)]) hok (by simpa using k2);simp only[nX];exact az (fun b hlt hb=>⟨hon.S b hlt hb,rfl⟩) dd (fun _ _ _ h=>h) (fun h=>by simp at h) (fun h=>by simp at h) k3
 .have hlen:0<extra.length:=oZi;have hnew:ja d es' te tix (.sl false nl es' (some rows.length) rows) x st=some {tmps:=(st.fresh d).tmps.set d (.pal d [] 0 (frzRows rows++extra).length none),roots:=upd (st.fresh d).roots d (.sl true none es' none (frzRows rows++extra))}:=by
   have h0:j8 st es' (.sl false nl es' (some rows.length) rows)=some (frzRows rows):=by simp only[j8,true_and];grind
   simp only[ja,yM,h0,I8,hkx,if_true,hex,cI];rw[if_pos ⟨by simp[frzRows,Ext.all];omega,hes,hdH,by simpa[frzRows,Ext.all]using hb⟩];rfl
  obtain⟨u,w',hrun,m',hI⟩:=H8 (ty:=ty) hT H hti htix hkind hte hs hx hnew;refine⟨u,w',hrun,m',?_⟩;have hdl:d <(st.fresh d).tmps.length∨¬d <(st.fresh d).tmps.length:=Classical.em _;have eR:upd (upd (st.fresh d).roots d (.sl true none es' none (frzRows rows++extra))) d .dead=(st.fresh d).roots:=by
   funext y
   simp only[upd];split
   .rename_i e;subst e;exact hd.symm
   .rfl
  rcases hdl with hdl|hdl
  .have:=hI.freeze (n:=d) (t:=d) (nl:=none) (es:=es') (cap:=none) (rows:=frzRows rows++extra) (by simp[aI]) (lo:=0) (len:=(frzRows rows++extra).length) (cp:=none) oZf
   grind[List.map_set,List.set_set]
  .have:=hI.drop d
   simp_all[St.drop,List.set_eq_of_length_le]
end
section
variable {X:Ctx} {m:Nat->aq->Value} {st:St} {a:Act} {w:World} {P:Program}
def TY:∀(k:Nat) {c:C} {q:aq},G2 k c=false->¬ak c q:=by
 intro k
 induction k with
 | zero=>simp_all[G2]
 | succ k ih=>
  intro c q h ho;cases c with
  | sl own nl es cap rows=>
   cases own with
   | true=>simp[G2]at h
   | false=>cases q<;>simp[ak,C.at,C.kid,C.isOwn]at ho
  | agg cs=>
   simp only[G2,xq,xj]at h;cases q with
   | nil=>grind[ak,C.at,C.isOwn]
   | cons s q=>
    unfold ak at ho;simp only[C.at,C.kid]at ho;split at ho
    .cases hc:cs[s.2]? with
     | none=>simp_all
     | some c'=>simp only[hc,cb]at ho;exact ih (h c' (cd hc)) ho
    .simp at ho
  | tup cs=>
   simp only[G2,xq,xj]at h;cases q with
   | nil=>grind[ak,C.at,C.isOwn]
   | cons s q=>
    unfold ak at ho;simp only[C.at,C.kid]at ho;split at ho
    .cases hc:cs[s.2]? with
     | none=>simp_all
     | some c'=>simp only[hc,cb]at ho;exact ih (h c' (cd hc)) ho
    .simp at ho
  | _=>cases q<;>simp[ak,C.at,C.kid,C.isOwn]at ho
def Xo{S:Nat->Prop}{L:C->Value->Prop}{mr:aq->Value}:∀(k:Nat) {d n:Nat} {p:aq} {c:C} {u:Value},rel w S L0 mr true d p c u ->
  (∀q nl es cap rows u dd,c.at q=some (.sl true nl es cap rows)->rel w S L0 mr true dd (p++q) (.sl true nl es cap rows) u->L (.pal n (p++q) 0 rows.length none) u) ->
  rel w S L dm false (d+1) [] (lM k n p c) u:=by
 intro k
 induction k with
 | zero=>intro d n p c u _ _;trivial
 | succ k ih=>
  intro d n p c u h hL;cases d with
  | zero=>exact h.elim
  | succ d=>
   cases c with
   | dead=>trivial
   | val v=>exact h
   | sl own nl es cap rows=>
    cases own with
    | true=>
     have:=hL [] nl es cap rows u (d+1) rfl (by simpa using h);simp only[nn]at this;exact this
    | false=>
     obtain⟨a,k,h1,h2,h3,h4,hz,h5,h6,h7⟩:=h;refine⟨a,k,h1,h2,h3,h4,hz,h5,oZk,?_⟩;rcases h7 with h7|h7|⟨b,off,arr,elem,frz,g1,g2,g3,g4,g5⟩
     .exact .inl h7
     .simp_all
     .exact .inr (.inr ⟨b,off,arr,elem,frz,g1,g2,fun _=>g3 oZk,oZk,fun i j row c' e1 e2=>by
       obtain⟨u',e3,e4⟩:=g5 i j row c' e1 e2;simp only[aiX]at e4;exact⟨u',e3,aW d _ oZg (by grind[bY])⟩⟩)
   | agg cs=>
    obtain⟨arr,h1,h2,h3⟩:=h;refine⟨arr,h1,by rw[oJ];exact h2,fun j c' e=>?_⟩;rw[Mv]at e;simp only[cq,cy]at e;obtain⟨c0,e,rfl⟩:=e;obtain⟨u',e1,e2⟩:=h3 j c0 e;refine⟨u',e1,bY (ih e2 ?_)⟩;intro q nl es cap rows u dd hq hr;have:=hL ((0,j)::q) nl es cap rows u dd (by simp_all[C.at,C.kid]) oZf
    simp_all
   | tup cs=>
    obtain⟨arr,h1,h2,h3⟩:=h;refine⟨arr,h1,by rw[oJ];exact h2,fun j c' e=>?_⟩;rw[Mv]at e;simp only[cq,cy]at e;obtain⟨c0,e,rfl⟩:=e;obtain⟨u',e1,e2⟩:=h3 j c0 e;refine⟨u',e1,bY (ih e2 ?_)⟩;intro q nl es cap rows u dd hq hr;have:=hL ((0,j)::q) nl es cap rows u dd (by simp_all[C.at,C.kid]) oZf
    simp_all
   | clo f cs=>
    obtain⟨arr,h1,h2,h3⟩:=h;refine⟨arr,h1,h2,fun j c' e=>?_⟩;obtain⟨u',e1,e2⟩:=h3 j c' e;exact⟨u',e1,aW d _ oZg (az (fun _ _ h=>⟨h,rfl⟩) d (fun _ _ _ h=>h.elim) (fun h=>by simp at h) (fun h=>by simp at h) e2)⟩
   | iref es rows i j=>
    obtain⟨b,off,arr,elem,frz,g1,g2,g3,g4,g5⟩:=h;exact⟨b,off,arr,elem,frz,g1,g2,g3,g4,fun i j row c' e1 e2=>let⟨u',e3,e4⟩:=g5 i j row c' e1 e2;⟨u',e3,aW d _ oZg (bY e4)⟩⟩
   | pref n p i j=>exact h.elim
   | pal n p lo len cap=>exact h.elim
open Classical in
def Dy(H:av X m st a w){d:Nat}{ks:List Nat}{own:Bool}{r:C}{u:Value}{w':World}{mr:aq->Value}{d0:Nat}{Sr Kc:Nat->Prop}{tmps0:List C}
  (hd:own=true->st.roots d=.dead) (hdk:own=true->d∉ks) (hno:own=false->∀q,¬ak r q)
  (hr:rel w' Sr L0 mr true d0 [] r u) (hSr:∀b,b<w'.heap.size->Sr b->(b<w.heap.size->(X.S st.roots m b/\¬Kc b)∨Kc b)/\¬jM r mr b)
  (hinj:∀q q' b,ak r q->ak r q'->blk (mr q)=some b->blk (mr q')=some b->q=q') (hown:∀b,jM r mr b->w.heap.size<=b∨Kc b)
  (hK:∀b,Kc b->∃h∈ks,∃p,ak (st.roots h) p/\blk (m h p)=some b) (hfr:FrK w Kc w') (hl:tmps0.length=st.tmps.length)
  (ht:∀(t:Nat) (c:C),tmps0[t]?=some c->c=.dead∨(st.tmps[t]?=some c/\∀v u dd,occ dd c v->Lv st.roots m v u->∃n p,v.place=some (n,p)/\n∉ks/\(own=true->n≠d))):
  av X (fun n p=>if n=d/\own=true then mr p else m n p) {tmps:=tmps0.set d (lM 3 d [] r),roots:=fun n=>if n=d/\own=true then r else if n∈ks then .dead else st.roots n} (a.put (some d) u) w':=by
 have R1:own=true->(fun n=>if n=d/\own=true then r else if n∈ks then C.dead else st.roots n) d=r:=oZf;have M1:own=true->∀p,(fun n p=>if n=d/\own=true then mr p else m n p) d p=mr p:=oZf;have Rn:∀n,¬(n=d/\own=true)->n∉ks->(if n=d/\own=true then r else if n∈ks then C.dead else st.roots n)=st.roots n:=oZf;have Rk:∀n,¬(n=d/\own=true)->n∈ks->(if n=d/\own=true then r else if n∈ks then C.dead else st.roots n)=.dead:=oZf;have Mn:∀n p,¬(n=d/\own=true)->(if n=d/\own=true then mr p else m n p)=m n p:=oZf;have cases_own:∀n p b,ak (if n=d/\own=true then r else if n∈ks then C.dead else st.roots n) p->blk (if n=d/\own=true then mr p else m n p)=some b ->
   (n=d/\own=true/\ak r p/\blk (mr p)=some b)∨(¬(n=d/\own=true)/\n∉ks/\ak (st.roots n) p/\blk (m n p)=some b):=by
  intro n p b ho hb;by_cases h1:n=d/\own=true
  .simp_all
  grind[aY]
 have old_lt:∀n p b,ak (st.roots n) p->blk (m n p)=some b->b<w.heap.size:=fun n p b ho hb=>H.lt ho hb;have old_notK:∀n p b,n∉ks->ak (st.roots n) p->blk (m n p)=some b->¬Kc b:=by
  intro n p b hn ho hb hk;obtain⟨h,hh,p',ho',hb'⟩:=hK b hk;have:=H.inj _ _ _ _ b ho ho' hb hb'
  simp_all
 have new_split:∀n p b,n∉ks->ak (st.roots n) p->blk (m n p)=some b->¬jM r mr b:=by
  grind
 have hS:∀b,b<w.heap.size->X.S st.roots m b->X.S (fun n=>if n=d/\own=true then r else if n∈ks then C.dead else st.roots n) (fun n p=>if n=d/\own=true then mr p else m n p) b/\w'.heap[b]?=w.heap[b]?:=by
  intro b hlt hs;have hnk:¬Kc b:=by
   intro hk;obtain⟨h,_,p,ho,hb⟩:=hK b hk;exact hs.2 ⟨h,p,ho,hb⟩
  refine⟨⟨hs.1,?_⟩,hfr.block b hlt hnk⟩;rintro⟨n,p,ho,hb⟩;rcases cases_own n p b ho hb with⟨_,_,h3,h4⟩|⟨_,_,h3,h4⟩
  .rcases hown b ⟨p,h3,h4⟩with h|h
   .omega
   simp_all
  .exact hs.2 ⟨n,p,h3,h4⟩
 have hSr':∀b,b<w'.heap.size->Sr b->X.S (fun n=>if n=d/\own=true then r else if n∈ks then C.dead else st.roots n) (fun n p=>if n=d/\own=true then mr p else m n p) b:=by
  intro b hlt hs;obtain⟨h1,h2⟩:=hSr b hlt hs;by_cases hb:b<w.heap.size
  .rcases h1 hb with h1|h1
   .simp_all
   .obtain⟨h,_,p,ho,hbk⟩:=hK b h1;refine⟨(H.own h p b ho hbk).elim .inr (fun hk=>.inl (X.kS b hk)),?_⟩;rintro⟨n,p',ho',hbk'⟩;rcases cases_own n p' b ho' hbk' with⟨_,_,h3,h4⟩|⟨_,h5,h3,h4⟩
    .exact h2 ⟨p',h3,h4⟩
    grind
  .refine⟨.inr (nq H.fr.size oZg),?_⟩;rintro⟨n,p,ho,hbk⟩;rcases cases_own n p b ho hbk with⟨_,_,h3,h4⟩|⟨_,_,h3,h4⟩
   .exact h2 ⟨p,h3,h4⟩
   grind
 have hrr:rel w' (X.S (fun n=>if n=d/\own=true then r else if n∈ks then C.dead else st.roots n) (fun n p=>if n=d/\own=true then mr p else m n p)) L0 mr true d0 [] r u:=
  az (fun b hlt hs=>⟨hSr' b hlt hs,rfl⟩) d0 (fun _ _ _ h=>h) (fun _ _ _ _ _ _=>rfl) (fun _ _ _=>rfl) hr
 have hview:aF X (fun n p=>if n=d/\own=true then mr p else m n p) {tmps:=tmps0,roots:=fun n=>if n=d/\own=true then r else if n∈ks then .dead else st.roots n} w' (lM 3 d [] r) u:=by
  refine⟨d0+1,Xo 3 hrr ?_⟩;intro q nl es cap rows u' dd hq hrel;cases own with
  | false=>exact(hno rfl q (by unfold ak;rw[hq];rfl)).elim
  | true=>
   obtain⟨a1,k,dd',e1,e2,e3,e4,e5,ez,e6,e7⟩:=ei hrel;simp only[cO]at e1 e2 ⊢;refine⟨nl,es,cap,rows,a1,k,a1,k,oZf,oZf,oZg,by rw[e1,e2],e3,oZg,oZk,oZk,?_⟩
   grind
 have base:av X (fun n p=>if n=d/\own=true then mr p else m n p) {tmps:=tmps0,roots:=fun n=>if n=d/\own=true then r else if n∈ks then .dead else st.roots n} a w':=by
  refine⟨by rw[H.len,hl],?_,?_,?_,?_,?_,H.df⟩
  .intro t c htc;rcases ht t c htc with rfl|⟨h1,hv⟩
   .have:t<a.tmps.size:=by rw[H.len,<-hl];grind
    exact⟨a.tmps[t],1,by simp[this],trivial⟩
   .obtain⟨u',d',e1,e2⟩:=H.tmp t c h1;refine⟨u',d',e1,az hS d' ?_ (fun h=>by simp at h) (fun h=>by simp at h) e2⟩;intro v uv ho hlv;obtain⟨n,p,hp,hn,hnd⟩:=hv v uv d' ho hlv;have h1':¬(n=d/\own=true):=fun h=>hnd h.2 h.1;refine mn hp (Mn n p h1') ?_ hlv
    grind
  .intro n;by_cases h1:n=d/\own=true
   .obtain⟨rfl,h2⟩:=h1;refine⟨u,d0,?_⟩
    simp_all
   .by_cases h2:n∈ks
    .exact⟨undef,1,by simp only[Rk n h1 h2];trivial⟩
    .obtain⟨u',d',hr'⟩:=H.root n;refine⟨u',d',?_⟩;simp only[Rn n h1 h2];refine az hS d' (fun _ _ _ h=>h) ?_ ?_ hr'
     .intro _ q b ho hb hlt;simp only[cO]at hb;exact hfr.block b hlt (old_notK n q b h2 ho hb)
     simp_all
  .intro n p n' p' b ho ho' hb hb';rcases cases_own n p b ho hb with⟨h1,h2,h3,h4⟩|⟨h1,h2,h3,h4⟩<;>rcases cases_own n' p' b ho' hb' with⟨g1,g2,g3,g4⟩|⟨g1,g2,g3,g4⟩
   .grind
   .exact(new_split n' p' b g2 g3 g4 ⟨p,h3,h4⟩).elim
   .exact(new_split n p b h2 h3 h4 ⟨p',g3,g4⟩).elim
   .exact H.inj _ _ _ _ b h3 g3 h4 g4
  .intro n p b ho hb;rcases cases_own n p b ho hb with⟨h1,h2,h3,h4⟩|⟨h1,h2,h3,h4⟩
   .rcases hown b ⟨p,h3,h4⟩with h|h
    .exact .inl (nq H.fr.size h)
    .obtain⟨x,_,p',ho',hb'⟩:=hK b h;exact H.own x p' b ho' hb'
   .exact H.own n p b h3 h4
  .refine⟨hfr.os.trans H.fr.os,hfr.tape.trans H.fr.tape,hfr.output.trans H.fr.output,nq H.fr.drawn hfr.drawn,nq H.fr.size hfr.size,?_⟩;intro b hlt hk;have hlt':b<w.heap.size:=aiH hlt H.fr.size;rw[hfr.block b hlt' ?_]
   .exact H.fr.block b hlt hk
   .intro hkc;obtain⟨x,_,p,ho,hb⟩:=hK b hkc;rcases H.own x p b ho hb with h|h
    .omega
    .exact hk h
 exact base.putTmp d hview
end
def bN:C->List C
 | .agg cs=>cs
 | c=>[c]
def jf(R:Nat->C):Nat->List C->List C
 | _,[]=>[]
 | h,.agg cs::rest=>.agg (cs.mapIdx fun j _=>R (h+j))::jf R (h+cs.length) rest
 | h,_::rest=>R h::jf R (h+1) rest
section
variable {X:Ctx} {m:Nat->aq->Value} {st:St} {a:Act} {w:World} {P:Program}
def hOf(h:Nat):List C->Nat->Nat
 | [],_=>h
 | _::_,0=>h
 | c::cs,i+1=>hOf (h+(bN c).length) cs i
def HO(h:Nat):∀(cs:List C) (g i:Nat),hOf (h+g) cs i=h+hOf g cs i
 | [],g,i=>by simp[hOf]
 | c::cs,g,0=>by simp[hOf]
 | c::cs,g,i+1=>by simp_all[hOf,nw,HO]
def RI:∀{cs:List C} {h i i':Nat} {c:C},cs[i]?=some c->i<i'->i'<cs.length->hOf h cs i+(bN c).length<=hOf h cs i':=by
 intro cs
 induction cs with
 | nil=>simp_all
 | cons x cs ih=>
  intro h i i' c hc hlt hl;obtain⟨i',rfl⟩:∃k,i'=k+1:=⟨i'-1,oZg⟩;simp only[cn]at hl;cases i with
  | zero=>
   simp only[cG,cc]at hc;subst hc;simp only[hOf];have:=HO (h+(bN x).length) cs 0 i'
   simp_all
  | succ i=>
   simp_all[hOf]
def mM(R:Nat->C)(h:Nat):C->C
 | .agg cs=>.agg (cs.mapIdx fun j _=>R (h+j))
 | _=>R h
theorem wc(R:Nat->C)(h:Nat)(c:C)(cs:List C):jf R h (c::cs)=mM R h c::jf R (h+(bN c).length) cs:=by
 cases c<;>rfl
theorem Cv(R:Nat->C):∀{cs:List C} {h i:Nat},(jf R h cs)[i]?=(cs[i]?).map (mM R (hOf h cs i)):=by
 intro cs
 induction cs with
 | nil=>simp_all[jf]
 | cons c cs ih=>
  intro h i;rw[wc];cases i with
  | zero=>simp[hOf]
  | succ i=>simp_all[hOf]
def Lh(R:Nat->C):∀{cs:List C} {h:Nat},(jf R h cs).length=cs.length:=by
 intro cs
 induction cs with
 | nil=>intro h;rfl
 | cons c cs ih=>simp_all[wc]
def MU(vs:List Value)(h:Nat):C->Value->Prop
 | .agg cs,u=>∃arr:Array Value,u=.agg arr/\arr.size=cs.length/\∀j,j<cs.length->vs[h+j]?=arr[j]?
 | _,u=>vs[h]?=some u
def Qg{m:Nat->aq->Value}{st:St}:∀{cs:List C} {us:List Value},us.length=cs.length->(∀(j:Nat) (c:C),cs[j]?=some c->∃u,us[j]?=some u/\aF X m st w c u) ->
  ∃vs:List Value,vs.length=(cs.flatMap bN).length/\(∀(j:Nat) (c:C),(cs.flatMap bN)[j]?=some c->∃u,vs[j]?=some u/\aF X m st w c u)∧
   ∀(i:Nat) (c:C) (u:Value),cs[i]?=some c->us[i]?=some u->MU vs (hOf 0 cs i) c u:=by
 intro cs
 induction cs with
 | nil=>simp_all
 | cons c cs ih=>
  intro us hl hr;cases us with
  | nil=>simp at hl
  | cons u us=>
   obtain⟨vs,h1,h2,h3⟩:=ih (us:=us) oZf (fun j c' hj=>by have:=hr (j+1) c' oZf;simp_all);obtain⟨u0,hu0,hrel⟩:=hr 0 c rfl;simp only[cG,cc]at hu0;subst hu0;have first:∃ws:List Value,ws.length=(bN c).length/\(∀(j:Nat) (c':C),(bN c)[j]?=some c'->∃u,ws[j]?=some u/\aF X m st w c' u)/\∀vs,MU (ws++vs) 0 c u:=by
    have one:∀c':C,(bN c'=[c'])->aF X m st w c' u->(∀vs,MU ([u]++vs) 0 c' u)->∃ws:List Value,ws.length=(bN c').length/\(∀(j:Nat) (c'':C),(bN c')[j]?=some c''->∃u,ws[j]?=some u/\aF X m st w c'' u)/\∀vs,MU (ws++vs) 0 c' u:=by
     intro c' hl' hr' hv';refine⟨[u],by simp[hl'],?_,hv'⟩
     grind
    cases c with
    | agg cells=>
     obtain⟨ws,e1,e2,e3⟩:=hrel.of_agg;refine⟨ws,e2,e3,fun vs=>⟨ws.toArray,e1,oZg,fun j hj=>?_⟩⟩
     grind
    | _=>exact one _ rfl hrel (fun vs=>by simp[MU])
   obtain⟨ws,w1,w2,w3⟩:=first
   refine⟨ws++vs,by simp[w1,h1],?_,?_⟩
   .grind
   .intro i c' u' hc hu;cases i with
    | zero=>
     simp only[cG,cc]at hc hu;subst hc;subst hu;exact w3 vs
    | succ i=>
     simp only[nY]at hc hu;have:=h3 i c' u' hc hu;have hh:hOf 0 (c::cs) (i+1)=ws.length+hOf 0 cs i:=by
      simp only[hOf];have:=HO (bN c).length cs 0 i
      simp_all
     rw[hh];have shift:∀k,(ws++vs)[ws.length+k]?=vs[k]?:=by intro k;rw[ni oZg];congr 1;omega
     simp_all[nw,MU]
def I9{Q:Nat->Nat->Prop}(hm:∀j d d',d<=d'->Q j d->Q j d'):∀(n:Nat),(∀j,j<n->∃d,Q j d)->∃D,∀j,j<n->Q j D
 | 0,_=>⟨0,fun j hj=>oZg⟩
 | n+1,h=>by
  obtain⟨D,hD⟩:=I9 hm n (fun j hj=>h j oZg);obtain⟨d,hd⟩:=h n oZg;refine⟨max D d,fun j hj=>?_⟩;by_cases e:j=n
  .grind
  .exact hm _ _ _ (xI _ _) (hD j oZg)
def iT(h:Nat):C->aq->Nat×aq
 | .agg _,(_,j)::p=>(h+j,p)
 | _,p=>(h,p)
theorem C0{R:Nat->C}{h:Nat}{c:C}{q:aq}(ho:ak (mM R h c) q):ak (R (iT h c q).1) (iT h c q).2/\h<=(iT h c q).1/\(iT h c q).1<h+(bN c).length:=by
 cases c with
 | agg cs=>
  cases q with
  | nil=>grind[ak,mM,C.at,C.isOwn]
  | cons s q=>
   unfold ak at ho;simp only[mM,C.at,C.kid]at ho;split at ho
   .simp only[xl]at ho;cases hc:cs[s.2]? with
    | none=>simp_all
    | some c'=>
     simp only[hc,cI,cb]at ho;have:s.2<cs.length:=(cg.1 hc).1;exact⟨ho,by simp[iT],by simp_all[iT,bN]⟩
   .simp at ho
 | _=>exact⟨ho,by simp[iT],by simp[iT,bN]⟩
theorem QH{R:Nat->C}{h:Nat}{c:C}{q q':aq}(ho:ak (mM R h c) q)(ho':ak (mM R h c) q')(he:iT h c q=iT h c q'):q=q':=by
 cases c with
 | agg cs=>
  cases q with
  | nil=>grind[ak,mM,C.at,C.isOwn]
  | cons s q=>
   cases q' with
   | nil=>grind[ak,mM,C.at,C.isOwn]
   | cons s' q'=>
    grind[ak,mM,C.at,C.kid,iT]
 | _=>simpa[iT]using he
def W9{R:Nat->C}{S:Nat->Prop}{m:Nat->aq->Value}{h:Nat}{c:C}{u:Value}{vs:List Value}(hv:MU vs h c u)
  (hr:∀n v,vs[n]?=some v->∃d,rel w S L0 (m n) true d [] (R n) v):∃d,rel w S L0 (fun q=>m (iT h c q).1 (iT h c q).2) true d [] (mM R h c) u:=by
 have one:∀c':C,(∀q,iT h c' q=(h,q))->mM R h c'=R h->vs[h]?=some u->∃d,rel w S L0 (fun q=>m (iT h c' q).1 (iT h c' q).2) true d [] (mM R h c') u:=by
  simp_all
 cases c with
 | agg cs=>
  obtain⟨arr,rfl,h2,h3⟩:=hv;have:∃D,∀j,j<cs.length->∃u',arr[j]?=some u'/\rel w S L0 (m (h+j)) true D [] (R (h+j)) u':=by
   refine I9 (Q:=fun j D=>∃u',arr[j]?=some u'/\rel w S L0 (m (h+j)) true D [] (R (h+j)) u') ?_ cs.length ?_
   .grind[aW]
   simp_all
  obtain⟨D,hD⟩:=this;refine⟨D+1,arr,rfl,oZf,?_⟩;intro j c' hj;simp only[xl,cq]at hj;obtain⟨c0,hj,rfl⟩:=hj;obtain⟨u',e1,e2⟩:=hD j (cg.1 hj).1;exact⟨u',e1,az (fun b _ hb=>⟨hb,rfl⟩) D (fun _ _ _ h=>h) (fun _ _ _ _ _ _=>rfl) (fun _ q _=>by simp[iT]) e2⟩
 | _=>exact one _ (fun _=>rfl) rfl hv
end
def gC(st:St)(c:Call):Option (Nat×List C):=
 match c.callee with
 | .value x=>match st.ev x with
  | .clo f caps=>some (N6 f,Kd f (c.args.toList.map st.ev) caps)
  | _=>none
 | _=>none
def FZ:List Bool->List C->List C->Option (List C)
 | [],[],[]=>some []
 | true::fl,o::os,rs=>match FZ fl os rs with
  | some cs=>some (o::cs)
  | none=>none
 | false::fl,os,r::rs=>match FZ fl os rs with
  | some cs=>some (r::cs)
  | none=>none
 | _,_,_=>none
def kT:List Bool->List C->List C
 | true::fl,c::cs=>c::kT fl cs
 | false::fl,_::cs=>kT fl cs
 | _,_=>[]
def iO:List Bool->List C->List C
 | true::fl,_::cs=>iO fl cs
 | false::fl,c::cs=>c::iO fl cs
 | _,_=>[]
def clr(k:Nat)(R:Nat->C):Nat->C:=fun n=>if H0<=n/\n<H0+k then .dead else R n
def Pn(d:Nat)(fs:FnS)(args:List C)(st:St):Option St:=
 if args.length=fs.own.length/\d<H0 then
  match kV ((kT fs.own args).flatMap bN).length H0 ((kT fs.own args).flatMap bN) (.tup (iO fs.own args)) st with
  | some (st1,.tup rest)=>match yD st1 (rest.map (poi fun n' _=>decide (H0<=n')))with
   | some rs=>match FZ fs.own (jf st1.roots H0 (kT fs.own args)) rs with
    | some cs=>if fs.pure=true∨rest.all (fun c=>!ml c)=true then match fs.fn cs with
      | some r=>some {tmps:=((st1.fresh d).tmps.map (poi fun n' _=>decide (H0<=n'))).set d (lM 3 d [] r),roots:=if G2 3 r then upd (clr ((kT fs.own args).flatMap bN).length (st1.fresh d).roots) d r else clr ((kT fs.own args).flatMap bN).length (st1.fresh d).roots}
      | none=>none
     else none
    | none=>none
   | none=>none
  | _=>none
 else none
def tp:C->Bool
 | .sl true _ es _ _=>es != 0
 | _=>false
def PE(d:Nat)(args:List C)(st:St):Option St:=
 match args with
 | [.pal n [] _ len _,.pal n' [] _ len' _]=>match tp (st.roots n),tp (st.roots n')with
  | true,true=>if n≠n'/\len≠0/\len'≠0 then some (st.put (some d) (.val (.bool false)))else none
  | _,_=>none
 | _=>none
def Je:C->List Nat
 | .pal n _ _ _ _=>[n]
 | .pref n _ _ _=>[n]
 | _=>[]
def DG:C->List Nat
 | .pal n _ _ _ _=>[n]
 | .pref n _ _ _=>[n]
 | .agg cs=>cs.flatMap Je
 | .clo _ cs=>cs.flatMap Je
 | _=>[]
def Ct:List Nat->St->St
 | [],st=>st
 | n::ns,st=>Ct ns (st.drop n)
def MC(ns:List Nat)(args:List C):Bool:=args.all fun c=>!(c.ment (fun n _=>!ns.contains n) 3)
def Jx(d:Nat)(fs:FnS)(args:List C)(st:St):Option St:=
 match yD st args with
 | some cs=>if MC (args.flatMap DG) args=true then match fs.fn cs with
   | some r=>some (LJ d r (Ct (args.flatMap DG) st))
   | none=>none
  else none
 | none=>none
def VN:C->Bool
 | .sl true _ _ (some 1) [_]=>true
 | _=>false
def VM:C->Nat->Option C
 | .sl true _ es _ rows,n=>if rows.length=n then some (.sl true none es none rows)else none
 | _,_=>none
def Pz(st:St):C->Option (Nat×C)
 | .pref n [] 0 0=>if VN (st.roots n)=true then some (n,st.roots n)else none
 | .pal n [] 0 len none=>match VM (st.roots n) len with
  | some c=>some (n,c)
  | none=>none
 | _=>none
def DV(st:St):Nat->List C->Option (List (Nat×C))
 | 0,_=>some []
 | k+1,a::l=>match Pz st a with
  | some x=>match DV st k l with
   | some ns=>if(ns.map Prod.fst).contains x.1=true then none else some (x::ns)
   | none=>none
  | none=>none
 | _,_=>none
def FV:C->Bool
 | .agg cs=>cs.all C.cellOk
 | c=>c.cellOk
def Fq:List Nat->List C->(Nat->C)->Nat->C
 | n::ns,l::ls,R=>upd (Fq ns ls R) n l
 | _,_,R=>R
def zP(ks:List Nat):Nat->aq->Bool:=fun n p=>ks.contains n && !p.isEmpty
def Jm(d:Nat)(fl:FnL)(args:List C)(st:St):Option St:=
 match DV st fl.k args with
 | some ns=>if(args.drop fl.k).all FV=true then match fl.fn (ns.map Prod.snd) (args.drop fl.k)with
   | some (r,ls)=>if ls.map dC=ns.map (fun n=>dC n.2)then some {tmps:=(st.tmps.map (poi (zP (ns.map Prod.fst)))).set d r,roots:=Fq (ns.map Prod.fst) ls st.roots}else none
   | none=>none
  else none
 | none=>none
def XT:C->Bool
 | .pref 0 [] _ _=>true
 | .val _=>true
 | _=>false
def ZQ:C->Bool
 | .tup cs=>cs.all XT
 | c=>XT c
def X6(d:Nat):C->C
 | .pref _ _ i j=>.pref d [] i j
 | c=>c
def Tt(d:Nat):C->C
 | .tup cs=>.tup (cs.map (X6 d))
 | c=>X6 d c
def LB(d:Nat)(fl:FnL)(args:List C)(st:St):Option St:=
 match yD st args with
 | some cs=>if args.all (fun c=>!ml c)=true then match fl.fn [] cs with
   | some (r,[c])=>if ZQ r=true then some {tmps:=(st.fresh d).tmps.set d (Tt d r),roots:=upd (st.fresh d).roots d c}else none
   | _=>none
  else none
 | none=>none
def JE(d:Nat)(fl:FnL)(args:List C)(st:St):Option St:=
 match args with
 | .pal n p 0 len none::rest=>if fl.k=1/\p.isEmpty=false/\rest.all FV=true then match st.roots n,st.node n p with
   | .sl true nl0 es0 cap0 rows0,some (.sl true _ es _ rows)=>if rows.length=len then match fl.fn [.sl true none es none rows] rest with
     | some (r,[c])=>if dC c=some (es,some rows.length)then some {tmps:=(st.tmps.map (poi (zP [n]))).set d r,roots:=upd st.roots n ((C.sl true nl0 es0 cap0 rows0).turn (fun _=>c) p)}else none
     | _=>none
    else none
   | _,_=>none
  else none
 | _=>none
def JA(d:Nat)(fl:FnL)(args:List C)(st:St):Option St:=
 match DV st fl.k args with
 | some ns=>if fl.pure=true/\MC ((args.drop fl.k).flatMap DG) (args.drop fl.k)=true/\((args.drop fl.k).flatMap DG).all (fun v=>!(ns.map Prod.fst).contains v)=true then match yD st (args.drop fl.k)with
   | some rs=>match fl.fn (ns.map Prod.snd) rs with
    | some (r,ls)=>if ls.map dC=ns.map (fun n=>dC n.2)then some {tmps:=(st.tmps.map (poi (zP (ns.map Prod.fst)))).set d r,roots:=Fq (ns.map Prod.fst) ls st.roots}else none
    | none=>none
   | none=>none
  else none
 | none=>none
def VQ(d:Nat)(fl:FnL)(args:List C)(st:St):Option St:=
 if fl.k=0 then LB d fl args st else match Jm d fl args st with
  | some s=>some s
  | none=>match JE d fl args st with
   | some s=>some s
   | none=>JA d fl args st
def PB(E:Env)(d:Nat)(f:Nat)(args:List C)(st:St):Option St:=
 match E.L d f with
 | some fl=>VQ d fl args st
 | none=>match E.G d f with
  | some fs=>if fs.own=[]then match yD st args with
    | some cs=>if fs.pure=true∨args.all (fun c=>!ml c)=true then match fs.fn cs with
      | some r=>some (LJ d r st)
      | none=>none
     else Jx d fs args st
    | none=>none
   else if fs.peek=true then PE d args st else Pn d fs args st
  | none=>none
section
variable {X:Ctx} {m:Nat->aq->Value} {st:St} {a:Act} {w:World} {P:Program}
def UP{S:Nat->Prop}:∀(cs:List C) (us:List Value),us.length=cs.length->(∀(j:Nat) (c:C),cs[j]?=some c->∃u,us[j]?=some u/\Fc w S c u) ->
  ∃d,∀(j:Nat) (c:C),cs[j]?=some c->∃u,us[j]?=some u/\rel w S L0 dm false d [] c u:=by
 intro cs
 induction cs with
 | nil=>simp_all
 | cons c cs ih=>
  intro us hl h;cases us with
  | nil=>simp at hl
  | cons u us=>
   obtain⟨d,hd⟩:=ih us oZf (fun j c' hc=>by simpa using h (j+1) c' oZf);obtain⟨u',h1,d',h2⟩:=h 0 c rfl;simp only[cG,cc]at h1;subst h1;refine⟨max d d',?_⟩;intro j c' hc;cases j with
   | zero=>simp only[cG,cc]at hc;subst hc;exact⟨u,rfl,aW _ _ (xy _ _) h2⟩
   | succ j=>
    grind[aW]
def Fc.mono{S S':Nat->Prop}{c:C}{u:Value}(h:Fc w S c u)(hS:∀b,S b->S' b):Fc w S' c u:=by
 obtain⟨d,h⟩:=h;exact⟨d,az (fun b _ hb=>⟨hS b hb,rfl⟩) d (fun _ _ _ h=>h) (fun h=>by simp at h) (fun h=>by simp at h) h⟩
def XP{N:Nat->Prop}(H:av X m st a w):∀{cs cs':List C} {us:List Value},us.length=cs.length->(∀(j:Nat) (c:C),cs[j]?=some c->∃u,us[j]?=some u/\aF X m st w c u)->(∀c∈cs,QV N c)->F1 st cs=some cs' ->
  cs'.length=cs.length/\∀(j:Nat) (c:C),cs'[j]?=some c->∃u,us[j]?=some u/\Fc w (fun b=>X.S st.roots m b∨(cs.any oa=true/\tO N st.roots m b)) c u:=by
 intro cs
 induction cs with
 | nil=>simp_all[F1]
 | cons c cs ih=>
  intro cs' us hl hr hN hs;cases us with
  | nil=>simp at hl
  | cons u us=>
   simp only[F1]at hs;split at hs
   .rename_i c0 cs0 h1 h2;simp only[cc]at hs;subst hs;obtain⟨u0,e1,e2⟩:=hr 0 c rfl;simp only[cG,cc]at e1;subst e1;have g1:=y4 H e2 (hN c oZk) h1;obtain⟨g2,g3⟩:=ih (us:=us) oZf (fun j c' hc=>by simpa using hr (j+1) c' oZf) (fun c' hc'=>hN c' (by simp[hc'])) h2;refine⟨by simp[g2],?_⟩;intro j c' hj;cases j with
    | zero=>
     simp only[cG,cc]at hj;subst hj;exact⟨u,rfl,g1.mono (fun b hb=>hb.imp id (fun h=>⟨by simp[h.1],h.2⟩))⟩
    | succ j=>
     obtain⟨u',f1,f2⟩:=g3 j c' oZf;exact⟨u',oZf,f2.mono (fun b hb=>hb.imp id (fun h=>⟨oZf,h.2⟩))⟩
   .simp at hs
def aeg{N:Nat->Prop}(H:av X m st a w){c c':C}{u:Value}(h:aF X m st w c u)(hN:QV N c)(hs:Kb st c=some c'):Fc w (fun b=>X.S st.roots m b∨(ml c=true/\tO N st.roots m b)) c' u:=by
 cases c with
 | agg cs=>
  simp only[Kb,cq]at hs;obtain⟨cs',hs,rfl⟩:=hs;obtain⟨us,rfl,h1,h2⟩:=h.of_agg;obtain⟨g1,g2⟩:=XP H h1 h2 (fun c' hc' d v n p ho=>hN (d+1) v n p ⟨c',hc',ho⟩) hs;obtain⟨d,hd⟩:=UP cs' us oZg g2;refine⟨d+1,us.toArray,rfl,by simp[h1,g1],fun j c hc=>?_⟩;obtain⟨u,e1,e2⟩:=hd j c hc;exact⟨u,oZf,bY e2⟩
 | clo f cs=>
  simp only[Kb,cq]at hs;obtain⟨cs',hs,rfl⟩:=hs;obtain⟨dd,h⟩:=h;cases dd with
  | zero=>exact h.elim
  | succ dd=>
   obtain⟨arr,rfl,h1,h2⟩:=h;obtain⟨g1,g2⟩:=XP H (us:=arr.toList) oZg (fun j c hc=>by
    obtain⟨u',e1,e2⟩:=h2 j c hc;exact⟨u',oZf,dd,e2⟩) (fun c' hc' d v n p ho=>hN (d+1) v n p ⟨c',hc',ho⟩) hs
   obtain⟨d,hd⟩:=UP cs' arr.toList (by simp[h1,g1]) g2;refine⟨d+1,arr,rfl,by simp[h1,g1],fun j c hc=>?_⟩;obtain⟨u,e1,e2⟩:=hd j c hc;exact⟨u,oZf,e2⟩
 | tup cs=>grind[Kb,mO]
 | dead=>exact(y4 H h hN hs).mono (fun b hb=>hb.imp id (fun h=>⟨by simp[oa]at h,h.2⟩))
 | val v=>exact(y4 H h hN hs).mono (fun b hb=>hb.imp id (fun h=>⟨by simp[oa]at h,h.2⟩))
 | sl own nl es cap rows=>exact(y4 H h hN hs).mono (fun b hb=>hb.imp id (fun h=>⟨by simp[oa]at h,h.2⟩))
 | iref es rows i j=>exact(y4 H h hN hs).mono (fun b hb=>hb.imp id (fun h=>⟨by simp[oa]at h,h.2⟩))
 | pref n p i j=>exact(y4 H h hN hs).mono (fun b hb=>hb.imp id (fun h=>⟨rfl,h.2⟩))
 | pal n p lo len cap=>exact(y4 H h hN hs).mono (fun b hb=>hb.imp id (fun h=>⟨rfl,h.2⟩))
def FG{N:Nat->Prop}(H:av X m st a w):∀{cs cs':List C} {us:List Value},us.length=cs.length->(∀(j:Nat) (c:C),cs[j]?=some c->∃u,us[j]?=some u/\aF X m st w c u)->(∀c∈cs,QV N c)->yD st cs=some cs' ->
  cs'.length=cs.length/\∀(j:Nat) (c:C),cs'[j]?=some c->∃u,us[j]?=some u/\Fc w (fun b=>X.S st.roots m b∨(cs.any ml=true/\tO N st.roots m b)) c u:=by
 intro cs
 induction cs with
 | nil=>simp_all[yD]
 | cons c cs ih=>
  intro cs' us hl hr hN hs;cases us with
  | nil=>simp at hl
  | cons u us=>
   simp only[yD]at hs;split at hs
   .rename_i c0 cs0 h1 h2;simp only[cc]at hs;subst hs;obtain⟨u0,e1,e2⟩:=hr 0 c rfl;simp only[cG,cc]at e1;subst e1;have g1:=aeg H e2 (hN c oZk) h1;obtain⟨g2,g3⟩:=ih (us:=us) oZf (fun j c' hc=>by simpa using hr (j+1) c' oZf) (fun c' hc'=>hN c' (by simp[hc'])) h2;refine⟨by simp[g2],?_⟩;intro j c' hj;cases j with
    | zero=>
     simp only[cG,cc]at hj;subst hj;exact⟨u,rfl,g1.mono (fun b hb=>hb.imp id (fun h=>⟨by simp[h.1],h.2⟩))⟩
    | succ j=>
     obtain⟨u',f1,f2⟩:=g3 j c' oZf;exact⟨u',oZf,f2.mono (fun b hb=>hb.imp id (fun h=>⟨oZf,h.2⟩))⟩
   .simp at hs
def yu(H:av X m st a w){c:Call}{ty:TypeId}{f:Nat}{args:List C}(h:gC st c=some (f,args)):
  ∃us:List Value,us.length=args.length/\(∀(j:Nat) (c:C),args[j]?=some c->∃u,us[j]?=some u/\aF X m st w c u)∧
   (do let d <-resolve a.eval c ty;invoke d.target d.args:Sem Next).run P w=(callFunc f us.toArray).run P w:=by
 obtain⟨callee,cargs,ctys⟩:=c;unfold gC at h;cases callee with
 | value x=>
  simp only at h;split at h
  .rename_i f' caps hx;obtain⟨rfl,rfl⟩:=h;have hr:=bo H x;rw[hx]at hr;obtain⟨d,hr⟩:=hr;cases d with
   | zero=>exact hr.elim
   | succ d=>
    obtain⟨arr,h1,h2,h3⟩:=hr;have hev:=N5 H cargs.toList;by_cases hB:f'<B0
    .simp only[Kd,N6,hB,if_true];simp only[H7,hB,if_true]at h1;refine⟨cargs.toList.map a.eval++arr.toList,by simp[h2],?_,?_⟩
     .intro j c hj;by_cases hlt:j<cargs.toList.length
      .grind
      .rw[ni oZf]at hj ⊢;obtain⟨u,e1,e2⟩:=h3 _ c hj;exact⟨u,oZf,d,e2⟩
     .have earr:(cargs.toList.map a.eval++arr.toList).toArray=cargs.map a.eval++arr:=by
       grind
      grind[resolve,Deferred.ofValue,invoke]
    .simp only[Kd,N6,hB,if_false];simp only[H7,hB,if_false]at h1;refine⟨arr.toList++cargs.toList.map a.eval,by simp[h2],?_,?_⟩
     .intro j c hj;by_cases hlt:j<caps.length
      .rw[na hlt]at hj;rw[na oZf];obtain⟨u,e1,e2⟩:=h3 _ c hj;exact⟨u,oZf,d,e2⟩
      grind
     .have earr:(arr.toList++cargs.toList.map a.eval).toArray=arr++cargs.map a.eval:=by
       grind
      grind[resolve,Deferred.ofValue,invoke]
  .simp at h
 | invoke _ _=>simp at h
 | builtin _=>simp at h
theorem ui(cs:List C):R0 [] cs=fun _=>.dead:=by funext n;simp[R0]
theorem ff{m:Nat->aq->Value}{b:Nat}:¬aJ (fun _=>C.dead) m b:=by
 rintro⟨n,p,ho,_⟩;exact aY ho
def Fj{o:Oper}{c:Call}(hop:o.op=.call c){f:Nat}{us:List Value}{Q:Value->World->Prop}(hd:LD P f us w Q)(hrun:(do let d <-resolve a.eval c o.type;invoke d.target d.args:Sem Next).run P w=(callFunc f us.toArray).run P w){K:Act->World->Prop}{Qx:Exit->Act->World->Prop}
  (hk:∀u w',Q u w'->K (a.put o.dst u) w'):o.wp P a w K Qx:=by
 unfold Oper.wp execOp;simp only[hop];rw[hrun];rcases hd with⟨h1,h2⟩|⟨u,w',h1,h2⟩
 .rw[h1,Oper.upon_enter];refine h2.mono ?_
  simp_all
 simp_all[Oper.upon_value]
def Zn{E:Env}(hG:GOk P E)(H:av X m st a w){o:Oper}{c:Call}(hop:o.op=.call c){d f:Nat}(hdst:o.dst=some d){args:List C}(hc:gC st c=some (f,args)){fs:FnS}(hfs:E.G d f=some fs)(hown:fs.own=[]){cs:List C}{r:C}(hsn:yD st args=some cs)
  (hpv:fs.pure=true∨args.all (fun c=>!ml c)=true) (hr:fs.fn cs=some r) (hdH:d<H0) {Qx:Exit->Act->World->Prop}:
  o.wp P a w (fun a' w'=>∃m',av X m' (LJ d r st) a' w'/\(∀n,n≠d->∀q,m' n q=m n q)/\∀b,b<w.heap.size->w'.heap[b]?=w.heap[b]?) Qx:=by
 obtain⟨us,hl,hrel,hrun⟩:=yu (P:=P) (ty:=o.type) H hc;obtain⟨s1,s2⟩:=FG (N:=fun _=>True) H hl hrel (fun _ _ _ _ _ _ _ _=>trivial) hsn;have hcon:=(hG.1 d f fs hfs).con cs r hr;rw[hown]at hcon;obtain⟨S,hS1,hS2⟩:∃S:Nat->Prop,(∀(j:Nat) (c:C),cs[j]?=some c->∃u,us[j]?=some u/\Fc w S c u)/\(fs.pure=false->∀b,S b->X.S st.roots m b):=by
  cases hp:fs.pure with
  | true=>exact⟨fun _=>True,fun j c hj=>let⟨u,e1,e2⟩:=s2 j c hj;⟨u,e1,e2.mono (fun _ _=>trivial)⟩,oZk⟩
  | false=>
   have hno:args.any ml=false:=by
    simp_all
   refine⟨X.S st.roots m,fun j c hj=>let⟨u,e1,e2⟩:=s2 j c hj;⟨u,e1,e2.mono (fun b hb=>?_)⟩,fun _ b hb=>hb⟩
   grind
 have hdoes:=hcon w S (fun _=>dm) us oZg (by
  intro i c hi;obtain⟨u,e1,d',e2⟩:=hS1 i c hi;refine⟨u,d',e1,?_⟩;simp only[List.getD_nil,ui];exact az (fun b _ hb=>⟨⟨hb,ff⟩,rfl⟩) d' (fun _ _ _ h=>h) (fun h=>by simp at h) (fun h=>by simp at h) e2) (by
  intro n p n' p' b ho
  simp_all[ui,aY])
 refine Fj hop hdoes hrun ?_;rintro u w' ⟨mr,d0,q1,q2,q3,q4⟩;rw[hdst];have hfr:FrK w (fun _=>False) w':=⟨q4.os,q4.tape,q4.output,q4.drawn,q4.size,fun b hb _=>q4.block b hb (by rw[ui];exact ff)⟩;have hq3:∀b,jM r mr b->w.heap.size<=b∨False:=fun b hb=>by
  simp_all[ui,ff]
 unfold LJ;split
 .rename_i hod;obtain⟨h1,hd1⟩:=sd H d;have hon:=uw H hdH;have:=Dy h1 (d:=d) (ks:=[]) (own:=true) (r:=r) (u:=u) (w':=w') (mr:=mr) (Sr:=fun b=>((fs.pure=false/\(S b∨aJ (R0 [] cs) (fun _=>dm) b))∨w.heap.size<=b)/\¬jM r mr b) (Kc:=fun _=>False) (tmps0:=(st.fresh d).tmps)
   (fun _=>hd1) oZk oZk q1 (by
    rintro b _ ⟨e2,e3⟩;refine⟨fun hlt=>.inl ⟨?_,id⟩,e3⟩;rcases e2 with⟨e1,e2|e2⟩|e2
    .exact hon.S b hlt (hS2 e1 b e2)
    .simp_all[ui,ff]
    .omega) q2 hq3 oZk hfr rfl (by
    intro t c0 ht;refine .inr ⟨ht,fun v uv dd ho hl=>?_⟩;cases hp:v.place with
    | none=>cases v<;>simp[C.place]at hp<;>exact hl.elim
    | some np=>
     obtain⟨n,p⟩:=np;exact⟨n,p,rfl,oZk,fun _=>by rintro rfl;grind[CX]⟩)
  have e:(fun n=>if n=d/\true=true then r else if n∈([]:List Nat)then C.dead else(st.fresh d).roots n)=upd (st.fresh d).roots d r:=by
   funext n;simp[upd]
  rw[e]at this;exact⟨_,this,fun n hn q=>by simp[hn],fun b hb=>hfr.block b hb (fun h=>h)⟩
 .rename_i hod;have:=Dy H (d:=d) (ks:=[]) (own:=false) (r:=r) (u:=u) (w':=w') (mr:=mr) (Sr:=fun b=>((fs.pure=false/\(S b∨aJ (R0 [] cs) (fun _=>dm) b))∨w.heap.size<=b)/\¬jM r mr b) (Kc:=fun _=>False) (tmps0:=st.tmps)
   oZk oZk (fun _ q=>TY 3 oZf) q1 (by
    grind[id,ui,ff]) q2 hq3 oZk hfr rfl (by
    intro t c0 ht;refine .inr ⟨ht,fun v uv dd ho hl=>?_⟩;cases hp:v.place with
    | none=>cases v<;>simp[C.place]at hp<;>exact hl.elim
    | some np=>
     grind)
  have e:(fun n=>if n=d/\false=true then r else if n∈([]:List Nat)then C.dead else st.roots n)=st.roots:=by
   simp_all
  rw[e]at this;exact⟨_,this,fun n hn q=>by simp[hn],fun b hb=>hfr.block b hb (fun h=>h)⟩
def Un(H:av X m st a w):∀(ns:List Nat) {st:St},av X m st a w->av X m (Ct ns st) a w
 | [],_,h=>h
 | n::ns,_,h=>Un H ns (h.drop n)
theorem OO:∀(ns:List Nat) (st:St) (n:Nat),(Ct ns st).roots n=if n∈ns then .dead else st.roots n
 | [],st,n=>by simp[Ct]
 | k::ns,st,n=>by
  rw[Ct,OO ns];by_cases h:n∈ns
  .simp[h]
  .by_cases e:n=k
   .simp_all[St.drop,aI]
   simp_all[St.drop,aV]
def Yx{E:Env}(hG:GOk P E)(H:av X m st a w){o:Oper}{c:Call}(hop:o.op=.call c){d f:Nat}(hdst:o.dst=some d){args:List C}(hc:gC st c=some (f,args)){fs:FnS}(hfs:E.G d f=some fs)(hown:fs.own=[])
  {st':St} (hx:Jx d fs args st=some st') (hdH:d<H0) {Qx:Exit->Act->World->Prop}:
  o.wp P a w (fun a' w'=>∃m',av X m' st' a' w') Qx:=by
 obtain⟨us,hl,hrel,hrun⟩:=yu (P:=P) (ty:=o.type) H hc;unfold Jx at hx;split at hx
 case h_2=>simp at hx
 rename_i cs hsn;split at hx
 case isFalse=>simp at hx
 rename_i hso;split at hx
 case h_2=>simp at hx
 rename_i r hr;simp only[cc]at hx;subst hx;generalize hns:args.flatMap DG=ns at *;have hsees:∀c∈args,QV (fun n=>n∈ns) c:=by
  intro c hcm dd v n p ho hp;have h1:=cE.1 hso c hcm
  grind[Bool.not_eq_true',jB]
 obtain⟨s1,s2⟩:=FG (N:=fun n=>n∈ns) H hl hrel hsees hsn;have hcon:=(hG.1 d f fs hfs).con cs r hr;rw[hown]at hcon;have Hd:=Un H ns H;have hSd:∀b,(X.S st.roots m b∨tO (fun n=>n∈ns) st.roots m b)->X.S (Ct ns st).roots m b:=by
  intro b hb;have hold:∀n p,ak ((Ct ns st).roots n) p->n∉ns/\ak (st.roots n) p:=by
   grind[OO,aY]
  rcases hb with hb|⟨n,p,hn,ho,hb⟩
  .exact⟨hb.1,fun⟨n',p',ho',hb'⟩=>hb.2 ⟨n',p',(hold n' p' ho').2,hb'⟩⟩
  .refine⟨(H.own n p b ho hb).elim .inr (fun h=>.inl (X.kS b h)),?_⟩;rintro⟨n',p',ho',hb'⟩;obtain⟨h1,h2⟩:=hold n' p' ho';exact h1 ((H.inj _ _ _ _ b h2 ho hb' hb).1▸hn)
 have hdoes:=hcon w (fun b=>X.S st.roots m b∨tO (fun n=>n∈ns) st.roots m b) (fun _=>dm) us oZg (by
  intro i c hi;obtain⟨u,e1,e2⟩:=s2 i c hi;obtain⟨d',e2⟩:=e2.mono (S':=fun b=>X.S st.roots m b∨tO (fun n=>n∈ns) st.roots m b) (fun b hb=>hb.imp id (fun h=>h.2));refine⟨u,d',e1,?_⟩;exact az (fun b _ hb=>⟨⟨hb,ff⟩,rfl⟩) d' (fun _ _ _ h=>h) (fun h=>by simp at h) (fun h=>by simp at h) e2) (by
  intro n p n' p' b ho
  simp_all[ui,aY])
 refine Fj hop hdoes hrun ?_;rintro u w' ⟨mr,d0,q1,q2,q3,q4⟩;rw[hdst];generalize Ct ns st=st2 at *;have hfr:FrK w (fun _=>False) w':=⟨q4.os,q4.tape,q4.output,q4.drawn,q4.size,fun b hb _=>q4.block b hb (by rw[ui];exact ff)⟩;have hq3:∀b,jM r mr b->w.heap.size<=b∨False:=fun b hb=>by
  simp_all[ui,ff]
 unfold LJ;split
 .rename_i hod;obtain⟨h1,hd1⟩:=sd Hd d;have hon:=uw Hd hdH;have:=Dy h1 (d:=d) (ks:=[]) (own:=true) (r:=r) (u:=u) (w':=w') (mr:=mr) (Sr:=fun b=>((fs.pure=false/\((X.S st.roots m b∨tO (fun n=>n∈ns) st.roots m b)∨aJ (R0 [] cs) (fun _=>dm) b))∨w.heap.size<=b)/\¬jM r mr b) (Kc:=fun _=>False) (tmps0:=(st2.fresh d).tmps)
   (fun _=>hd1) oZk oZk q1 (by
    rintro b _ ⟨e2,e3⟩;refine⟨fun hlt=>.inl ⟨?_,id⟩,e3⟩;rcases e2 with⟨e1,e2|e2⟩|e2
    .exact hon.S b hlt (hSd b e2)
    .simp_all[ui,ff]
    .omega) q2 hq3 oZk hfr rfl (by
    intro t c0 ht;refine .inr ⟨ht,fun v uv dd ho hl=>?_⟩;cases hp:v.place with
    | none=>cases v<;>simp[C.place]at hp<;>exact hl.elim
    | some np=>
     obtain⟨n,p⟩:=np;exact⟨n,p,rfl,oZk,fun _=>by rintro rfl;grind[CX]⟩)
  have e:(fun n=>if n=d/\true=true then r else if n∈([]:List Nat)then C.dead else(st2.fresh d).roots n)=upd (st2.fresh d).roots d r:=by
   funext n;simp[upd]
  grind
 .rename_i hod;have:=Dy Hd (d:=d) (ks:=[]) (own:=false) (r:=r) (u:=u) (w':=w') (mr:=mr) (Sr:=fun b=>((fs.pure=false/\((X.S st.roots m b∨tO (fun n=>n∈ns) st.roots m b)∨aJ (R0 [] cs) (fun _=>dm) b))∨w.heap.size<=b)/\¬jM r mr b) (Kc:=fun _=>False) (tmps0:=st2.tmps)
   oZk oZk (fun _ q=>TY 3 oZf) q1 (by
    grind[id,ui,ff]) q2 hq3 oZk hfr rfl (by
    intro t c0 ht;refine .inr ⟨ht,fun v uv dd ho hl=>?_⟩;cases hp:v.place with
    | none=>cases v<;>simp[C.place]at hp<;>exact hl.elim
    | some np=>
     grind)
  have e:(fun n=>if n=d/\false=true then r else if n∈([]:List Nat)then C.dead else st2.roots n)=st2.roots:=by
   simp_all
  grind
def gm:List Bool->Nat->Nat
 | true::fl,i+1=>gm fl i+1
 | false::fl,i+1=>gm fl i
 | _,_=>0
def Cw:List Bool->Nat->Nat
 | true::fl,i+1=>Cw fl i
 | false::fl,i+1=>Cw fl i+1
 | _,_=>0
def Xq:∀{fl:List Bool} {i i':Nat},fl[i]?=some true->i<i'->i'<fl.length->gm fl i<gm fl i':=by
 intro fl
 induction fl with
 | nil=>simp_all
 | cons b fl ih=>
  intro i i' h hlt hl;obtain⟨i',rfl⟩:∃k,i'=k+1:=⟨i'-1,oZg⟩;simp only[cn]at hl;cases i with
  | zero=>
   simp_all[gm]
  | succ i=>
   have:=ih (i:=i) (i':=i') (by simpa using h) oZg oZg;cases b<;>simp only[gm]<;>omega
def acb:∀{fl:List Bool} {os rs cs:List C},FZ fl os rs=some cs->cs.length=fl.length ∧
  (∀i c,cs[i]?=some c->fl[i]?=some true->os[gm fl i]?=some c)/\(∀i c,cs[i]?=some c->fl[i]?=some false->rs[Cw fl i]?=some c):=by
 intro fl
 induction fl with
 | nil=>
  grind[FZ]
 | cons b fl ih=>
  intro os rs cs h;cases b with
  | true=>
   cases os with
   | nil=>simp[FZ]at h
   | cons o os=>
    simp only[FZ]at h;split at h
    case h_2=>simp at h
    rename_i cs' hc;simp only[cc]at h;subst h;obtain⟨h1,h2,h3⟩:=ih hc;refine⟨by simp[h1],?_,?_⟩
    .intro i c hi hf;cases i with
     | zero=>simp_all[gm]
     | succ i=>simp_all[gm]
    .intro i c hi hf;cases i with
     | zero=>simp at hf
     | succ i=>simp_all[Cw]
  | false=>
   cases rs with
   | nil=>cases os<;>simp[FZ]at h
   | cons r rs=>
    simp only[FZ]at h;split at h
    case h_2=>simp at h
    rename_i cs' hc;simp only[cc]at h;subst h;obtain⟨h1,h2,h3⟩:=ih hc;refine⟨by simp[h1],?_,?_⟩
    .intro i c hi hf;cases i with
     | zero=>simp at hf
     | succ i=>simp_all[gm]
    .intro i c hi hf;cases i with
     | zero=>simp_all[Cw]
     | succ i=>simp_all[Cw]
def aaV{Q:C->Value->Prop}:∀{fl:List Bool} {args:List C} {us:List Value},args.length=fl.length->us.length=args.length->(∀(j:Nat) (c:C),args[j]?=some c->∃u,us[j]?=some u/\Q c u) ->
  ∃uo ur:List Value,uo.length=(kT fl args).length/\ur.length=(iO fl args).length ∧
   (∀(j:Nat) (c:C),(kT fl args)[j]?=some c->∃u,uo[j]?=some u/\Q c u)/\(∀(j:Nat) (c:C),(iO fl args)[j]?=some c->∃u,ur[j]?=some u/\Q c u)∧
   (∀i u,fl[i]?=some true->us[i]?=some u->uo[gm fl i]?=some u)/\(∀i u,fl[i]?=some false->us[i]?=some u->ur[Cw fl i]?=some u):=by
 intro fl
 induction fl with
 | nil=>
  intro args us h1 h2 _;exact⟨[],[],rfl,rfl,by simp[kT],by simp[iO],oZk,oZk⟩
 | cons b fl ih=>
  intro args us h1 h2 hr;cases args with
  | nil=>simp at h1
  | cons c args=>
   cases us with
   | nil=>simp at h2
   | cons u us=>
    obtain⟨uo,ur,g1,g2,g3,g4,g5,g6⟩:=ih (args:=args) (us:=us) oZf oZf (fun j c' hj=>by simpa using hr (j+1) c' oZf);obtain⟨u0,e1,e2⟩:=hr 0 c rfl;simp only[cG,cc]at e1;subst e1;cases b with
    | true=>
     refine⟨u::uo,ur,by simp[kT,g1],by simp_all[iO],?_,by simp_all[iO],?_,?_⟩
     .intro j c' hj;cases j with
      | zero=>simp only[kT,cG,cc]at hj;subst hj;exact⟨u,rfl,e2⟩
      | succ j=>simp_all[kT]
     .intro i u' hf hu;cases i with
      | zero=>simp_all[gm]
      | succ i=>simp_all[gm]
     .intro i u' hf hu;cases i with
      | zero=>simp at hf
      | succ i=>simp_all[Cw]
    | false=>
     refine⟨uo,u::ur,by simp_all[kT],by simp[iO,g2],by simp_all[kT],?_,?_,?_⟩
     .intro j c' hj;cases j with
      | zero=>simp only[iO,cG,cc]at hj;subst hj;exact⟨u,rfl,e2⟩
      | succ j=>simp_all[iO]
     .intro i u' hf hu;cases i with
      | zero=>simp at hf
      | succ i=>simp_all[gm]
     .intro i u' hf hu;cases i with
      | zero=>simp_all[Cw]
      | succ i=>simp_all[Cw]
def afk(h:Nat):∀{cs:List C} {i:Nat} {c:C},cs[i]?=some c->hOf h cs i+(bN c).length<=h+(cs.flatMap bN).length:=by
 intro cs
 induction cs generalizing h with
 | nil=>simp_all
 | cons x cs ih=>
  intro i c hc;cases i with
  | zero=>simp_all[hOf]
  | succ i=>
   have:=ih (h+(bN x).length) (i:=i) (c:=c) oZf
   grind[hOf]
def Sv{E:Env}(hG:GOk P E)(H:av X m st a w){o:Oper}{c:Call}(hop:o.op=.call c){d f:Nat}(hdst:o.dst=some d){args:List C}(hc:gC st c=some (f,args)){fs:FnS}(hfs:E.G d f=some fs)
  {st':St} (hx:Pn d fs args st=some st') {Qx:Exit->Act->World->Prop}:
  o.wp P a w (fun a' w'=>∃m',av X m' st' a' w'/\MB (some d) m st w m' st' w') Qx:=by
 obtain⟨us,hl,hrel,hrun⟩:=yu (P:=P) (ty:=o.type) H hc;unfold Pn at hx;split at hx
 case isFalse=>simp at hx
 rename_i hlen;obtain⟨hlen,hdH⟩:=hlen;split at hx
 case h_2=>simp at hx
 rename_i st1 rest hprep;split at hx
 case h_2=>simp at hx
 rename_i rs hsn;split at hx
 case h_2=>simp at hx
 rename_i cs hint;split at hx
 case isFalse=>simp at hx
 rename_i hpv;split at hx
 case h_2=>simp at hx
 rename_i r hfn;simp only[cc]at hx;subst hx;obtain⟨uo,ur,p1,p2,p3,p4,p5,p6⟩:=aaV hlen hl hrel;obtain⟨vs,v1,v2,v3⟩:=Qg p1 p3;have hkeep:aF X m st w (.tup (iO fs.own args)) (.tuple ur.toArray):=by
  have:∃D,∀j,j <(iO fs.own args).length->∃c u,(iO fs.own args)[j]?=some c/\ur[j]?=some u/\rel w (X.S st.roots m) (Lv st.roots m) dm false D [] c u:=by
   refine I9 (Q:=fun j D=>∃c u,(iO fs.own args)[j]?=some c/\ur[j]?=some u/\rel w (X.S st.roots m) (Lv st.roots m) dm false D [] c u) ?_ _ ?_
   .grind[aW]
   .intro j hj;have e1:(iO fs.own args)[j]?=some (iO fs.own args)[j]:=by simp[hj]
    obtain⟨u,e2,D,e3⟩:=p4 j _ e1
    grind
  obtain⟨D,hD⟩:=this;refine⟨D+1,ur.toArray,rfl,by simp[p2],?_⟩
  grind[bY]
 obtain⟨m1,H1,hk1,hhands,_,hm1,_⟩:=D9 _ rfl v1 (ck _) H v2 hkeep hprep;obtain⟨dk,hk1⟩:=hk1;cases dk with
 | zero=>exact hk1.elim
 | succ dk=>
 obtain⟨arr,harr,hk2,hk3⟩:=hk1;simp only[Value.tuple.injEq]at harr;subst harr;have hrest:∀(j:Nat) (c:C),(rest.map (poi fun n' _=>decide (H0<=n')))[j]?=some c->∃u,ur[j]?=some u/\aF X m1 st1 w c u:=by
  intro j c hj;simp only[cz,cq]at hj;obtain⟨c0,hj,rfl⟩:=hj;obtain⟨u,e1,e2⟩:=hk3 j c0 hj;refine⟨u,oZf,?_⟩;rcases ld (fun n' _=>decide (H0<=n')) c0 with h|⟨h,_⟩
  .rw[h];exact⟨1,trivial⟩
  .rw[h];exact⟨dk,bY e2⟩
 have hsees:∀c∈rest.map (poi fun n' _=>decide (H0<=n')),QV (fun n=>n<H0) c:=by
  intro c hc dd v n p ho hp;simp only[cH]at hc;obtain⟨c0,_,rfl⟩:=hc;rcases ld (fun n' _=>decide (H0<=n')) c0 with h|⟨h,hm⟩
  .rw[h]at ho;cases dd<;>exact ho.elim
  grind[jB]
 have hlr:ur.length=(rest.map (poi fun n' _=>decide (H0<=n'))).length:=oZf;obtain⟨s1,s2⟩:=FG (N:=fun n=>n<H0) H1 hlr hrest hsees hsn;have hcon:=(hG.1 d f fs hfs).con cs r hfn;obtain⟨i1,i2,i3⟩:=acb hint
 let os:=kT fs.own args
 let nm:Nat->aq->Nat×aq:=fun i q=>iT (hOf H0 os (gm fs.own i)) ((os[gm fs.own i]?).getD .dead) q
 let mc:Nat->aq->Value:=fun i q=>m1 (nm i q).1 (nm i q).2
 have Sc:∀i c,cs[i]?=some c->fs.own[i]?=some true->∃c0,os[gm fs.own i]?=some c0/\c=mM st1.roots (hOf H0 os (gm fs.own i)) c0:=by
  grind[Cv,Option.map_eq_some_iff]
 have R0_own:∀i q,ak (R0 fs.own cs i) q->fs.own[i]?=some true/\∃c c0,cs[i]?=some c/\os[gm fs.own i]?=some c0/\ak (mM st1.roots (hOf H0 os (gm fs.own i)) c0) q/\nm i q=iT (hOf H0 os (gm fs.own i)) c0 q:=by
  intro i q ho;unfold R0 at ho;cases hf:fs.own.getD i false with
  | false=>simp_all[cS,aY]
  | true=>
   grind
 have R0_names:∀i q,ak (R0 fs.own cs i) q->ak (st1.roots (nm i q).1) (nm i q).2/\H0<=(nm i q).1/\(nm i q).1<H0+(os.flatMap bN).length:=by
  intro i q ho;obtain⟨_,c,c0,e1,e2,e3,e4⟩:=R0_own i q ho;obtain⟨g1,g2,g3⟩:=C0 e3;have:=afk H0 e2;have hge:H0<=hOf H0 os (gm fs.own i):=by have:=HO H0 os 0 (gm fs.own i);simp_all
  grind
 have hinj:Inj (R0 fs.own cs) mc:=by
  intro n p n' p' b ho ho' hb hb';obtain⟨f1,c,c0,e1,e2,e3,e4⟩:=R0_own n p ho;obtain⟨f2,c',c0',e1',e2',e3',e4'⟩:=R0_own n' p' ho';have hsame:=H1.inj _ _ _ _ b (R0_names n p ho).1 (R0_names n' p' ho').1 hb hb';have hsame:nm n p=nm n' p':=Prod.ext hsame.1 hsame.2;rw[e4,e4']at hsame;obtain⟨_,r1,r2⟩:=C0 e3;obtain⟨_,r3,r4⟩:=C0 e3';have l1:n<fs.own.length:=(cg.1 f1).1;have l2:n'<fs.own.length:=(cg.1 f2).1;have m1':gm fs.own n<os.length:=(cg.1 e2).1;have m2':gm fs.own n'<os.length:=(cg.1 e2').1;have hn:n=n':=by
   rcases nZ n n' with hlt|heq|hgt
   .have:=RI (h:=H0) e2 (Xq f1 hlt l2) m2'
    grind
   .exact heq
   .have:=RI (h:=H0) e2' (Xq f2 hgt l1) m1'
    grind
  subst hn;rw[e2]at e2';cases e2';exact⟨rfl,QH e3 e3' hsame⟩
 have hOwnedK:∀b,aJ (R0 fs.own cs) mc b->∃h∈List.range' H0 (os.flatMap bN).length,∃p,ak (st1.roots h) p/\blk (m1 h p)=some b:=by
  rintro b ⟨n,p,ho,hb⟩
  grind
 have hOwned1:∀b,aJ (R0 fs.own cs) mc b->aJ st1.roots m1 b:=fun b hb=>let⟨h,_,p,g1,g2⟩:=hOwnedK b hb;⟨h,p,g1,g2⟩
 obtain⟨S,hS1,hS2,hS3⟩:∃S:Nat->Prop,(∀(j:Nat) (c:C),rs[j]?=some c->∃u,ur[j]?=some u/\Fc w (fun b=>S b/\¬aJ (R0 fs.own cs) mc b) c u)/\(fs.pure=false->∀b,S b->X.S st1.roots m1 b)/\(∀b,X.S st1.roots m1 b->S b):=by
  have hsharp:∀b,(X.S st1.roots m1 b∨((rest.map (poi fun n' _=>decide (H0<=n'))).any ml=true/\tO (fun n=>n<H0) st1.roots m1 b))->¬aJ (R0 fs.own cs) mc b:=by
   rintro b (hb|⟨_,n,p,hn,ho,hb⟩) hO
   .exact hb.2 (hOwned1 b hO)
   .obtain⟨h,hh,p',g1,g2⟩:=hOwnedK b hO;have:=H1.inj _ _ _ _ b ho g1 hb g2
    grind
  cases hp:fs.pure with
  | true=>exact⟨fun _=>True,fun j c hj=>let⟨u,e1,e2⟩:=s2 j c hj;⟨u,e1,e2.mono (fun b hb=>⟨trivial,hsharp b hb⟩)⟩,oZk,fun _ _=>trivial⟩
  | false=>
   have hno:(rest.map (poi fun n' _=>decide (H0<=n'))).any ml=false:=by
    rcases hpv with h|h
    .simp_all
    .rw[xq];intro c hcm;simp only[cH]at hcm;obtain⟨c0,hc0,rfl⟩:=hcm
     grind[ld,decide,H0,ml,oa]
   refine⟨X.S st1.roots m1,fun j c hj=>let⟨u,e1,e2⟩:=s2 j c hj;⟨u,e1,e2.mono (fun b hb=>⟨?_,hsharp b hb⟩)⟩,fun _ b hb=>hb,fun _ h=>h⟩
   grind
 have hdoes:=hcon w S mc us oZg (by
  intro i c hi;have hil:i<fs.own.length:=oZi;have hui:∃u,us[i]?=some u:=⟨us[i]'oZg,oZk⟩;obtain⟨u,hu⟩:=hui;cases hf:fs.own[i]? with
  | none=>simp_all
  | some b=>
   cases b with
   | true=>
    obtain⟨c0,e1,e2⟩:=Sc i c hi hf;have huo:=p5 i u hf hu;have hlv:=v3 _ _ _ e1 huo;obtain⟨dd,hd⟩:=W9 (w:=w) (R:=fun n=>st1.roots (H0+n)) (S:=X.S st1.roots m1) (m:=fun n=>m1 (H0+n)) hlv (fun n v hn=>hhands n v hn);have hh:hOf H0 os (gm fs.own i)=H0+hOf 0 os (gm fs.own i):=by have:=HO H0 os 0 (gm fs.own i);omega
    have e3:mM (fun n=>st1.roots (H0+n)) (hOf 0 os (gm fs.own i)) c0=c:=by
     simp_all[mM,nw]
    rw[e3]at hd;refine⟨u,dd,hu,?_⟩;rw[xR,hf,nB];refine az (fun b _ hb=>⟨⟨hS3 b hb,fun hO=>hb.2 (hOwned1 b hO)⟩,rfl⟩) dd (fun _ _ _ h=>h) (fun _ _ _ _ _ _=>rfl) (fun _ q _=>?_) hd;have e4:nm i q=(H0+(iT (hOf 0 os (gm fs.own i)) c0 q).1,(iT (hOf 0 os (gm fs.own i)) c0 q).2):=by
     have e5:os[gm fs.own i]?=some c0:=e1;simp only[nm,e5,nB,hh];cases c0<;>cases q<;>simp[iT,nw]
    grind
   | false=>
    obtain⟨u',e1,dd,e2⟩:=hS1 _ c (i3 i c hi hf);have:=p6 i u hf hu;rw[this]at e1;cases e1;refine⟨u,dd,hu,?_⟩;rw[xR,hf,nB];exact az (fun b _ hb=>⟨hb,rfl⟩) dd (fun _ _ _ h=>h) (fun h=>by simp at h) (fun h=>by simp at h) e2) hinj
 refine Fj hop hdoes hrun ?_;rintro u w' ⟨mr,d0,q1,q2,q3,q4⟩;rw[hdst];obtain⟨h1,hd1⟩:=sd H1 d;have hon:=uw H1 hdH;have hroots:∀n,n≠d->(st1.fresh d).roots n=st1.roots n:=fun n hn=>MT hn;have hks:∀h∈List.range' H0 (os.flatMap bN).length,h≠d:=by
  grind
 have hcore:∀own:Bool,(own=false->∀q,¬ak r q)->av X (fun n p=>if n=d/\own=true then mr p else m1 n p)
   {tmps:=((st1.fresh d).tmps.map (poi fun n' _=>decide (H0<=n'))).set d (lM 3 d [] r),roots:=fun n=>if n=d/\own=true then r else if n∈List.range' H0 (os.flatMap bN).length then .dead else(st1.fresh d).roots n} (a.put (some d) u) w':=by
  intro own hno;refine Dy h1 (d:=d) (ks:=List.range' H0 (os.flatMap bN).length) (own:=own) (r:=r) (u:=u) (w':=w') (mr:=mr) (Sr:=fun b=>((fs.pure=false/\(S b∨aJ (R0 fs.own cs) mc b))∨w.heap.size<=b)/\¬jM r mr b) (Kc:=aJ (R0 fs.own cs) mc) (tmps0:=(st1.fresh d).tmps.map (poi fun n' _=>decide (H0<=n')))
   (fun _=>hd1) (fun _ hin=>hks d hin rfl) hno q1 ?_ q2 q3 ?_ q4 oZk ?_
  .rintro b _ ⟨e2,e3⟩;refine⟨fun hlt=>?_,e3⟩;rcases e2 with⟨e1,e2|e2⟩|e2
   .exact .inl ⟨hon.S b hlt (hS2 e1 b e2),fun hO=>(hS2 e1 b e2).2 (hOwned1 b hO)⟩
   .exact .inr e2
   .omega
  .grind
  .intro t c0 ht;simp only[cz,cq]at ht;obtain⟨c1,h0,rfl⟩:=ht;rcases ld (fun n' _=>decide (H0<=n')) c1 with h|⟨h,hm⟩
   .exact .inl h
   .rw[h];refine .inr ⟨h0,fun v uv dd ho hl=>?_⟩;obtain⟨n,p,e1,e2⟩:=jB dd 3 c1 v hm ho;refine⟨n,p,e1,?_,fun _=>by rintro rfl;grind[CX]⟩
    grind
 have hclr:∀n,(if n∈List.range' H0 (os.flatMap bN).length then C.dead else(st1.fresh d).roots n)=clr (os.flatMap bN).length (st1.fresh d).roots n:=by
  intro n;unfold clr
  simp_all
 have hkeepV:∀(mz:Nat->aq->Value) (sz:St),(∀n,n≠d->∀q,mz n q=m1 n q)->(∀n,n<H0->n≠d->sz.roots n=st1.roots n)->MB (some d) m st w mz sz w':=by
  intro mz sz e1 e2 n hn hnd ho ho';have hnd':n≠d:=fun h=>hnd (by rw[h]);have em:m1 n []=m n []:=hm1 n [] hn;refine⟨oZf,fun b hb=>?_⟩;rw[e2 n hn hnd']at ho';refine q4.block b (H.lt ho hb) (fun hO=>?_);obtain⟨h,hh,p,g1,g2⟩:=hOwnedK b hO;have:=(H1.inj _ _ _ _ b ho' g1 oZf g2).1
  grind
 cases hod:G2 3 r with
 | true=>
  have:=hcore true oZk;have e:(fun n=>if n=d/\true=true then r else if n∈List.range' H0 (os.flatMap bN).length then C.dead else(st1.fresh d).roots n)=upd (clr (os.flatMap bN).length (st1.fresh d).roots) d r:=by
   funext n
   simp only[upd,hclr,and_true]
  grind
 | false=>
  have:=hcore false (fun _ q=>TY 3 hod);have e:(fun n=>if n=d/\false=true then r else if n∈List.range' H0 (os.flatMap bN).length then C.dead else(st1.fresh d).roots n)=clr (os.flatMap bN).length (st1.fresh d).roots:=by
   simp_all
  grind
def V3(H:av X m st a w){n lo len:Nat}{cp:Option Nat}{u:Value}(hr:aF X m st w (.pal n [] lo len cp) u)(ho:tp (st.roots n)=true):
  ∃x k,u=.slice x len k/\(len=0∨∃b o arr e,x=some ⟨b,o,none⟩/\w.heap[b]?=some (.cells arr e (0,0))/\arr.size≠0/\blk (m n [])=some b):=by
 obtain⟨nl,es,cap',rows,a',k,a2,k',g1,g2,g3,rfl,g5,g6,g7,g8,g9⟩:=eD hr;refine⟨a2,k',rfl,?_⟩;by_cases hl:len=0
 .exact .inl hl
 right;rcases g9 with g9|⟨b,off,rfl,rfl⟩
 .omega
 obtain⟨u0,d0,hr0⟩:=H.root n;simp only[C.at,cc]at g1;rw[g1]at hr0 ho;have hes:es≠0:=by simp_all[tp]
 cases d0 with
 | zero=>exact hr0.elim
 | succ d0=>
  obtain⟨a3,k3,h1,h2,h3,h4,hz,h5,h6,h7⟩:=hr0;have h6':=h6 rfl;rw[h6',g2]at h1;obtain⟨rfl,_,rfl⟩:=h1;have hk:k≠0:=oZg;rcases h7 with h7|h7|⟨b',off',arr,elem,frz,f1,f2,f3,f4,f5⟩
  .omega
  .simp at h7
  .obtain⟨rfl,rfl⟩:=f1;obtain⟨rfl,f4b⟩:=f4 rfl;refine⟨b,_,arr,elem,rfl,f2,?_,by simp_all[blk]⟩;have:0<k*es:=Nat.mul_pos oZg oZg;omega
theorem adW{E:Env}(hG:GOk P E)(H:av X m st a w){o:Oper}{c:Call}(hop:o.op=.call c){d f:Nat}(hdst:o.dst=some d){args:List C}(hc:gC st c=some (f,args)){fs:FnS}(hfs:E.G d f=some fs)(hp:fs.peek=true)
  {st':St} (hx:PE d args st=some st') {Qx:Exit->Act->World->Prop}:
  o.wp P a w (fun a' w'=>∃m',av X m' st' a' w') Qx:=by
 obtain⟨us,hl,hrel,hrun⟩:=yu (P:=P) (ty:=o.type) H hc;unfold PE at hx;split at hx
 case h_2=>simp at hx
 rename_i n lo len cp n' lo' len' cp';split at hx
 case h_2=>simp at hx
 rename_i e1 e2;split at hx
 case isFalse=>simp at hx
 rename_i hne;obtain⟨hne,hz1,hz2⟩:=hne;simp only[cc]at hx;subst hx;obtain⟨u1,a1,r1⟩:=hrel 0 _ rfl;obtain⟨u2,a2,r2⟩:=hrel 1 _ rfl;obtain⟨x,k,rfl,q1⟩:=V3 H r1 e1;obtain⟨y,k',rfl,q2⟩:=V3 H r2 e2;obtain rfl:us=[.slice x len k,.slice y len' k']:=by
  match us,hl with
  | [v1,v2],_=>simp_all
 have hrun2:(callFunc f #[.slice x len k,.slice y len' k']).run P w=.ok (.value (.bool false)) w:=by
  refine(hG.1 d f fs hfs).peek hp w x y len k len' k' ?_;rcases q1 with q1|⟨b1,o1,arr1,t1,g1,g2,g3,g4⟩
  .omega
  rcases q2 with q2|⟨b2,o2,arr2,t2,f1,f2,f3,f4⟩
  .omega
  refine(⟨b1,o1,arr1,t1,b2,o2,arr2,t2,g1,f1,?_,g2,f2,f3⟩);rintro rfl;have hown:∀{n},tp (st.roots n)=true->ak (st.roots n) []:=by
   intro n h;unfold tp at h;split at h
   .rename_i e;rw[e];rfl
   .simp at h
  exact hne (H.inj n [] n' [] b1 (hown e1) (hown e2) g4 f4).1
 refine Fj hop (Q:=fun u w'=>u=.bool false/\w'=w) (.inr ⟨_,_,hrun2,rfl,rfl⟩) hrun ?_;rintro u w' ⟨rfl,rfl⟩;rw[hdst];exact⟨m,H.put (some d) (k:=1) rfl⟩
end
def VP(d es:Nat)(te:TI)(l c:C)(st:St):Option St:=
 match AA l,AA c with
 | some n,some n'=>if n=n'/\es≠0/\n *(te.bytes-1+1)<=140737488355328 then
   some {tmps:=(st.fresh d).tmps.set d (.pal d [] 0 n none),roots:=upd (st.fresh d).roots d (.sl true none es none (List.replicate n (te.zero.map .val)))}
  else none
 | _,_=>none
def mkX(E:Env)(d:Nat)(t:TypeId)(l c:C)(st:St):Option St:=
 match E.T t with
 | some ti=>match ti.kind with
  | .slice e es=>match E.T e with
   | some te=>VP d es te l c st
   | none=>none
  | _=>none
 | none=>none
section
variable {X:Ctx} {m:Nat->aq->Value} {st:St} {a:Act} {w:World} {P:Program}
def WO{c:C}{u:Value}(h:aF X m st w c u){n:Nat}(hn:AA c=some n):∃k,u=.int k (n:Int):=by
 unfold AA at hn;split at hn
 .rename_i k v;split at hn
  .simp only[cc]at hn;obtain rfl:=h.of_val
   grind
  .simp at hn
 .simp at hn
def aeT{E:Env}(hT:TOk P E)(H:av X m st a w){t:Nat}{ti te:TI}(hti:fc P t ti){e es:Nat}(hkind:ti.kind=.slice e es)(hte:fc P e te){l c:C}{ul uc:Value}(hl:aF X m st w l ul)(hc:aF X m st w c uc){d:Nat}{st':St}(hp:VP d es te l c st=some st'):
  ∃u w',(Instr.makeSlice t ul uc).run P w=.ok u w'/\∃m',av X m' st' (a.put (some d) u) w':=by
 unfold VP at hp;split at hp
 case h_2=>simp at hp
 rename_i n n' hn hn';split at hp
 case isFalse=>simp at hp
 rename_i hcc;obtain⟨rfl,hes,hb⟩:=hcc;simp only[cc]at hp;subst hp;obtain⟨kl,rfl⟩:=WO hl hn;obtain⟨kc,rfl⟩:=WO hc hn';obtain⟨dsc,hu,_,hkd⟩:=hti.und;rw[hkind]at hkd;obtain⟨rfl,ie0,hie0,hiesz0⟩:=hkd;obtain⟨i,hi,hi1,hi2,z,hzz,hzc⟩:=hte.info;rw[hi]at hie0;cases hie0;have hzs:z.cells.size=es:=by rw[<-xJ,hzc,hte.zlen,<-hi1,hiesz0]
 have hbb:n*te.bytes<=140737488355328/\n<=140737488355328:=Q4 hb;have hrun:=run_make (P:=P) w t e ie0 z hu hi hzz kl kc (n:Int) (n:Int) oZg (Int.le_refl _) (by
  grind) oZg
 simp only[cu]at hrun;obtain⟨h1,hd⟩:=sd H d;refine⟨_,_,hrun,?_⟩;obtain⟨h2,h3⟩:=h1.newRoot (d:=d) hd (D:=1) (arr:=madeCells z.cells (n*ie0.size)) (elem:=e) (rows:=List.replicate n (te.zero.map .val)) (es:=es) (k:=n) (cap:=none) (yA w _) rfl rfl rfl oZk (by grind[maxLen]) oZk (by
   grind) (by simp_all[size_madeCells]) (by
   intro i' j row c h1 h2;have hr:=xB (cd h1);have hik:i'<n:=oZi;subst hr;simp only[cz,cq]at h2;obtain⟨vz,h2,rfl⟩:=h2;have hj:j<es:=oZi;have hlt2:i'*es+j<n*es:=by
    have:(i'+1)* es<=n*es:=nr _ oZg
    grind
   refine⟨vz,?_,bL.val (hte.zone vz (cd h2))⟩;have hlt3:j<z.cells.size:=oZg;have hz:z.cells[j]?=some vz:=oZi;have hzj:z.cells[j]! = vz:=oZf;rw[madeCells,ai2,ai3,if_pos oZf]
   simp_all[cI,cc,xP,Nat.mod_eq_of_lt])
 refine⟨_,h2.putTmp d ?_⟩;have hp:=qs (X:=X) (w:=w.alloc (.cells (madeCells z.cells (n*ie0.size)) e)) (st:={(st.fresh d)with roots:=upd (st.fresh d).roots d (.sl true none es none (List.replicate n (te.zero.map .val)))}) (m:=mP m d (.slice (some ⟨w.heap.size,0,none⟩) (List.replicate n (te.zero.map C.val)).length n)) (d:=d) (aI _ _ _) (ad:=some ⟨w.heap.size,0,none⟩) (k:=n) (bz _ _ _) oZk (.inr ⟨_,_,rfl⟩)
 simp_all
end
def ZE(ks:List Nat)(tr:Nat->C)(mk:Nat->aq->Value)(b:Nat):Prop:=∃n∈ks,∃p,ak (tr n) p/\blk (mk n p)=some b
def aga(R tr:Nat->C)(m mk:Nat->aq->Value)(n:Nat):Prop:=∃nl es cap rows nl' cap' rows',R n=.sl true nl es cap rows/\tr n=.sl true nl' es cap' rows'/\rows'.length=rows.length/\mk n []=m n []
def vG(ks:List Nat)(tr R:Nat->C):Nat->C:=fun n=>if n∈ks then tr n else R n
section
variable {X:Ctx} {m:Nat->aq->Value} {st:St} {a:Act} {w:World} {P:Program}
def UG(H:av X m st a w){d:Nat}{ks:List Nat}{r:C}{u:Value}{w':World}{Sr Kc:Nat->Prop}{tr:Nat->C}{mk:Nat->aq->Value}
  (hr:Fc w' Sr r u)
  (hroot:∀n∈ks,∃uu dd,rel w' Sr L0 (mk n) true dd [] (tr n) uu) (hlike:∀n∈ks,aga st.roots tr m mk n)
  (hSr:∀b,b<w'.heap.size->Sr b->(b<w.heap.size->(X.S st.roots m b/\¬Kc b)∨Kc b)/\¬ZE ks tr mk b)
  (hinj:∀n∈ks,∀n'∈ks,∀q q' b,ak (tr n) q->ak (tr n') q'->blk (mk n q)=some b->blk (mk n' q')=some b->n=n'/\q=q')
  (hown:∀b,ZE ks tr mk b->w.heap.size<=b∨Kc b)
  (hK:∀b,Kc b->∃h∈ks,∃p,ak (st.roots h) p/\blk (m h p)=some b) (hfr:FrK w Kc w'):
  ∃m',av X m' {tmps:=(st.tmps.map (poi (zP ks))).set d r,roots:=vG ks tr st.roots} (a.put (some d) u) w':=by
 obtain⟨m',hm'⟩:∃m':Nat->aq->Value,m'=fun n p=>if n∈ks then mk n p else m n p:=⟨_,rfl⟩
 have Rk:∀n,n∈ks->vG ks tr st.roots n=tr n:=fun n h=>by simp[vG,h]
 have Rn:∀n,n∉ks->vG ks tr st.roots n=st.roots n:=fun n h=>by simp[vG,h]
 have Mk:∀n p,n∈ks->m' n p=mk n p:=fun n p h=>by simp[hm',h]
 have Mn:∀n p,n∉ks->m' n p=m n p:=fun n p h=>by simp[hm',h]
 have cases_own:∀n p b,ak (vG ks tr st.roots n) p->blk (m' n p)=some b->(n∈ks/\ak (tr n) p/\blk (mk n p)=some b)∨(n∉ks/\ak (st.roots n) p/\blk (m n p)=some b):=by
  grind
 have old_lt:∀n p b,ak (st.roots n) p->blk (m n p)=some b->b<w.heap.size:=fun n p b ho hb=>H.lt ho hb;have old_notK:∀n p b,n∉ks->ak (st.roots n) p->blk (m n p)=some b->¬Kc b:=by
  intro n p b hn ho hb hk;obtain⟨h,hh,p',ho',hb'⟩:=hK b hk;have:=H.inj _ _ _ _ b ho ho' hb hb'
  simp_all
 have new_split:∀n p b,n∉ks->ak (st.roots n) p->blk (m n p)=some b->¬ZE ks tr mk b:=by
  grind
 have hS:∀b,b<w.heap.size->X.S st.roots m b->X.S (vG ks tr st.roots) m' b/\w'.heap[b]?=w.heap[b]?:=by
  intro b hlt hs;have hnk:¬Kc b:=by
   intro hk;obtain⟨h,_,p,ho,hb⟩:=hK b hk;exact hs.2 ⟨h,p,ho,hb⟩
  refine⟨⟨hs.1,?_⟩,hfr.block b hlt hnk⟩;rintro⟨n,p,ho,hb⟩;rcases cases_own n p b ho hb with⟨h2,h3,h4⟩|⟨_,h3,h4⟩
  .rcases hown b ⟨n,h2,p,h3,h4⟩with h|h
   .omega
   simp_all
  .exact hs.2 ⟨n,p,h3,h4⟩
 have hSr':∀b,b<w'.heap.size->Sr b->X.S (vG ks tr st.roots) m' b:=by
  intro b hlt hs;obtain⟨h1,h2⟩:=hSr b hlt hs;by_cases hb:b<w.heap.size
  .rcases h1 hb with h1|h1
   .simp_all
   .obtain⟨h,_,p,ho,hbk⟩:=hK b h1;refine⟨(H.own h p b ho hbk).elim .inr (fun hk=>.inl (X.kS b hk)),?_⟩;rintro⟨n,p',ho',hbk'⟩;rcases cases_own n p' b ho' hbk' with⟨h5,h3,h4⟩|⟨h5,h3,h4⟩
    .exact h2 ⟨n,h5,p',h3,h4⟩
    grind
  .refine⟨.inr (nq H.fr.size oZg),?_⟩;rintro⟨n,p,ho,hbk⟩;rcases cases_own n p b ho hbk with⟨h5,h3,h4⟩|⟨_,h3,h4⟩
   .exact h2 ⟨n,h5,p,h3,h4⟩
   grind
 have hLv:∀v uu n p,v.place=some (n,p)->zP ks n p=false->Lv st.roots m v uu->Lv (vG ks tr st.roots) m' v uu:=by
  intro v uu n p hp hin hl;by_cases hn:n∈ks
  .have hpn:p=[]:=by
    simp_all[zP]
   subst hpn;obtain⟨nl,es,cap,rows,nl',cap',rows',e1,e2,e3,e4⟩:=hlike n hn;cases v with
   | pref n0 p0 i j=>
    simp only[C.place,cc,cP]at hp;obtain⟨rfl,rfl⟩:=hp;obtain⟨nl2,es2,cap2,rows2,b,off,k,g1,g2,g3⟩:=hl;rw[e1]at g1;simp only[C.at,cc,C.sl.injEq,true_and]at g1;obtain⟨rfl,rfl,rfl,rfl⟩:=g1;exact⟨nl',es,cap',rows',b,off,k,by rw[Rk _ hn,e2];rfl,oZf,g3⟩
   | pal n0 p0 lo len cp=>
    simp only[C.place,cc,cP]at hp;obtain⟨rfl,rfl⟩:=hp;obtain⟨nl2,es2,cap2,rows2,a0,k,a',k',g1,g2,g3,g4⟩:=hl;rw[e1]at g1;simp only[C.at,cc,C.sl.injEq,true_and]at g1;obtain⟨rfl,rfl,rfl,rfl⟩:=g1;exact⟨nl',es,cap',rows',a0,k,a',k',by rw[Rk _ hn,e2];rfl,oZf,oZg,g4⟩
   | _=>exact hl.elim
  .refine mn hp (Mn n p hn) ?_ hl
   grind
 have base:av X m' {tmps:=st.tmps.map (poi (zP ks)),roots:=vG ks tr st.roots} a w':=by
  refine⟨by simp[H.len],?_,?_,?_,?_,?_,H.df⟩
  .intro t c htc;simp only[cz,cq]at htc;obtain⟨c0,h0,rfl⟩:=htc;obtain⟨u',d',e1,e2⟩:=H.tmp t c0 h0;rcases ld (zP ks) c0 with e|⟨e,hm⟩
   .rw[e];exact⟨u',1,e1,trivial⟩
   .rw[e];refine⟨u',d',e1,az hS d' ?_ (fun h=>by simp at h) (fun h=>by simp at h) e2⟩
    grind[jB]
  .intro n;by_cases h:n∈ks
   .obtain⟨uu,dd,h1⟩:=hroot n h;refine⟨uu,dd,?_⟩;simp only[Rk n h];exact az (fun b hlt hs=>⟨hSr' b hlt hs,rfl⟩) dd (fun _ _ _ h=>h) (fun _ _ _ _ _ _=>rfl) (fun _ q _=>by simp_all) h1
   .obtain⟨u',d',hr'⟩:=H.root n;refine⟨u',d',?_⟩;simp only[Rn n h];refine az hS d' (fun _ _ _ h=>h) ?_ ?_ hr'
    .intro _ q b ho hb hlt;simp only[cO]at hb;exact hfr.block b hlt (old_notK n q b h ho hb)
    simp_all
  .intro n p n' p' b ho ho' hb hb';rcases cases_own n p b ho hb with⟨h2,h3,h4⟩|⟨h2,h3,h4⟩<;>rcases cases_own n' p' b ho' hb' with⟨g2,g3,g4⟩|⟨g2,g3,g4⟩
   .grind
   .exact(new_split n' p' b g2 g3 g4 ⟨n,h2,p,h3,h4⟩).elim
   .exact(new_split n p b h2 h3 h4 ⟨n',g2,p',g3,g4⟩).elim
   .exact H.inj _ _ _ _ b h3 g3 h4 g4
  .intro n p b ho hb;rcases cases_own n p b ho hb with⟨h2,h3,h4⟩|⟨h2,h3,h4⟩
   .rcases hown b ⟨n,h2,p,h3,h4⟩with h|h
    .exact .inl (nq H.fr.size h)
    .obtain⟨x,_,p',ho',hb'⟩:=hK b h;exact H.own x p' b ho' hb'
   .exact H.own n p b h3 h4
  .refine⟨hfr.os.trans H.fr.os,hfr.tape.trans H.fr.tape,hfr.output.trans H.fr.output,nq H.fr.drawn hfr.drawn,nq H.fr.size hfr.size,?_⟩;intro b hlt hk;have hlt':b<w.heap.size:=aiH hlt H.fr.size;rw[hfr.block b hlt' ?_]
   .exact H.fr.block b hlt hk
   .intro hkc;obtain⟨x,_,p,ho,hb⟩:=hK b hkc;rcases H.own x p b ho hb with h|h
    .omega
    .exact hk h
 obtain⟨dr,hr⟩:=hr;refine⟨m',base.putTmp d (c:=r) (u:=u) ⟨dr,?_⟩⟩;exact az (fun b hlt hs=>⟨hSr' b hlt hs,rfl⟩) dr (fun _ _ _ h=>h.elim) (fun h=>by simp at h) (fun h=>by simp at h) hr
def aai{c:C}(h:VN c=true):∃nl es row,c=.sl true nl es (some 1) [row]:=by
 unfold VN at h
 grind
def aaB{c c':C}{n:Nat}(h:VM c n=some c'):∃nl es cap rows,c=.sl true nl es cap rows/\c'=.sl true none es none rows/\rows.length=n:=by
 unfold VM at h
 grind
def Cg{c:C}{es:Nat}{x:Option Nat}(h:dC c=some (es,x)):∃nl cap rows,c=.sl true nl es cap rows/\((x=none/\cap=some 1/\∃row,rows=[row])∨(x=some rows.length/\cap=none/\nl=none)):=by
 unfold dC at h
 grind
def SF(st:St)(a:C)(n:Nat)(c:C):Prop:=
 (∃nl es row,a=.pref n [] 0 0/\st.roots n=.sl true nl es (some 1) [row]/\c=.sl true nl es (some 1) [row])∨
 (∃nl es cap rows,a=.pal n [] 0 rows.length none/\st.roots n=.sl true nl es cap rows/\c=.sl true none es none rows)
def WL{a:C}{n:Nat}{c:C}(h:Pz st a=some (n,c)):SF st a n c:=by
 unfold Pz at h;split at h
 .rename_i n';split at h
  .rename_i hv;simp only[cc,cP]at h;obtain⟨rfl,rfl⟩:=h;obtain⟨nl,es,row,e⟩:=aai hv;exact .inl ⟨nl,es,row,rfl,e,e⟩
  .cases h
 .split at h
  .rename_i c' hc;simp only[cc,cP]at h;obtain⟨rfl,rfl⟩:=h;obtain⟨nl,es,cap,rows,e1,e2,rfl⟩:=aaB hc;exact .inr ⟨nl,es,cap,rows,rfl,e1,e2⟩
  .cases h
 .cases h
def SF.own{a:C}{n:Nat}{c:C}(h:SF st a n c)(q:aq):ak c q↔ak (st.roots n) q:=by
 rcases h with⟨nl,es,row,_,e1,e2⟩|⟨nl,es,cap,rows,_,e1,e2⟩
 .rw[e1,e2]
 .rw[e1,e2];cases q with
  | nil=>exact⟨fun _=>rfl,fun _=>rfl⟩
  | cons x q=>exact xL
def XF{S:Nat->Prop}{L:C->Value->Prop}{o:Bool}{mm:aq->Value}{d:Nat}{p:aq}{own:Bool}{nl:Option Bool}{es:Nat}{cap:Option Nat}{rows:List (List C)}{u:Value}(h:rel w S L mm o d p (.sl own nl es cap rows) u):rel w S L mm o d p (.sl own none es none rows) u:=by
 cases d with
 | zero=>exact h.elim
 | succ d=>
  obtain⟨a,k,h1,h2,h3,h4,h5,h6⟩:=h;exact⟨a,k,h1,h2,h3,(fun c hc=>by cases hc),⟨(fun b hb=>by cases hb),h5.2⟩,h6⟩
def Ki:∀{k:Nat} {args:List C} {ns:List (Nat×C)},DV st k args=some ns->ns.length=k/\k<=args.length/\(ns.map Prod.fst).Nodup/\∀(i n:Nat) (c:C),ns[i]?=some (n,c)->∃a,args[i]?=some a/\SF st a n c:=by
 intro k
 induction k with
 | zero=>intro args ns h;simp only[DV,cc]at h;subst h;exact⟨rfl,oZg,List.nodup_nil,oZk⟩
 | succ k ih=>
  intro args ns h;cases args with
  | nil=>simp[DV]at h
  | cons a l=>
   simp only[DV]at h;split at h
   case h_2=>cases h
   rename_i x hx;split at h
   case h_2=>cases h
   rename_i ns' hns;split at h
   case isTrue=>cases h
   rename_i hnc;simp only[cc]at h;subst h;obtain⟨e1,e2,e3,e4⟩:=ih hns;refine⟨by simp[e1],oZd,aiM.2 ⟨oZf,e3⟩,?_⟩;intro i n' c' hi;cases i with
   | zero=>
    simp only[cG,cc]at hi;subst hi;exact⟨a,rfl,WL hx⟩
   | succ i=>simp_all
def ad5:∀{ns:List Nat} {ls:List C} {R:Nat->C},ns.Nodup->ls.length=ns.length->Fq ns ls R=vG ns (fun n=>(ls[ns.idxOf n]?).getD .dead) R:=by
 intro ns
 induction ns with
 | nil=>simp_all[funext,Fq,vG]
 | cons n ns ih=>
  intro ls R hn hl;cases ls with
  | nil=>simp at hl
  | cons l ls=>
   obtain⟨h1,h2⟩:=aiM.1 hn;simp only[Fq];rw[ih h2 oZf]
   funext x
   grind[upd,vG]
def Uz{c v:C}(hc:FV c=true):∀(d:Nat),¬occ d c v:=by
 intro d h;cases d with
 | zero=>exact h
 | succ d=>
  cases c with
  | agg cs=>
   obtain⟨c',hm,ho⟩:=h
   simp_all[FV,EF]
  | dead=>exact h
  | val _=>exact h
  | sl _ _ _ _ _=>exact h
  | iref _ _ _ _=>exact h
  | tup cs=>grind[FV,C.cellOk]
  | pref _ _ _ _=>grind[FV,C.cellOk]
  | pal _ _ _ _ _=>grind[FV,C.cellOk]
  | clo f cs=>exact EF (c:=.clo f cs) hc (d+1) h
def agh(P:Program)(f:FuncId)(k:Nat)(cs:List C)(r:C)(ls:List C)(g:(Nat->Prop)->Nat->Prop):Prop:=
 ∀(w:World) (S:Nat->Prop) (m:Nat->aq->Value) (us:List Value),us.length=cs.length ->
  (∀(i:Nat) (c:C),cs[i]?=some c->k<=i->∃u d,us[i]?=some u/\rel w (fun b=>S b/\¬aJ (Rl k cs) m b) L0 dm false d [] c u) ->
  (∀(i:Nat) (c:C),cs[i]?=some c->i<k->∃u d,us[i]?=some u/\Hd c u (m i [])/\rel w (fun b=>S b/\¬aJ (Rl k cs) m b) L0 (m i) true d [] c (m i [])) ->
  Inj (Rl k cs) m ->
  LD P f us w fun u w'=>∃mk:Nat->aq->Value,
   (∃d,rel w' (fun b=>(g S b∨aJ (Rl k cs) m b∨w.heap.size<=b)/\¬aJ (Rl k ls) mk b) L0 dm false d [] r u)∧
   (∀(i:Nat) (c:C),ls[i]?=some c->mk i []=m i []/\∃uu d,rel w' (fun b=>(g S b∨aJ (Rl k cs) m b∨w.heap.size<=b)/\¬aJ (Rl k ls) mk b) L0 (mk i) true d [] c uu)∧
   Inj (Rl k ls) mk/\(∀b,aJ (Rl k ls) mk b->w.heap.size<=b∨aJ (Rl k cs) m b)/\FrK w (aJ (Rl k cs) m) w'
def adM(H:av X m st a w){o:Oper}{c:Call}(hop:o.op=.call c){d f:Nat}(hdst:o.dst=some d){args:List C}(hc:gC st c=some (f,args)){K:Nat}{ns:List (Nat×C)}(hns:DV st K args=some ns)
  {rs:List C} (hrl:rs.length=args.length-K) {S:Nat->Prop} (hXS:∀b,X.S st.roots m b->S b) (hSn:∀b,S b->∀n∈ns.map Prod.fst,∀p,ak (st.roots n) p->blk (m n p)≠some b)
  (hrest:∀us:List Value,us.length=args.length->(∀(j:Nat) (c:C),args[j]?=some c->∃u,us[j]?=some u/\aF X m st w c u)->∀(i:Nat) (c0:C),rs[i]?=some c0->∃u,us[K+i]?=some u/\Fc w S c0 u)
  {r:C} {ls:List C} {g:(Nat->Prop)->Nat->Prop} (hcon:agh P f K (ns.map Prod.snd++rs) r ls g) (hg:∀b,g S b->X.S st.roots m b) (hsh:ls.map dC=ns.map (fun n=>dC n.2)) {Qx:Exit->Act->World->Prop}:
  o.wp P a w (fun a' w'=>∃m',av X m' {tmps:=(st.tmps.map (poi (zP (ns.map Prod.fst)))).set d r,roots:=Fq (ns.map Prod.fst) ls st.roots} a' w') Qx:=by
 obtain⟨us,hl,hrel,hrun⟩:=yu (P:=P) (ty:=o.type) H hc;obtain⟨n1,n2,n3,n4⟩:=Ki hns;obtain⟨ks,hks⟩:∃ks,ks=ns.map Prod.fst:=⟨_,rfl⟩;rw[<-hks]at n3 ⊢;have hkl:ks.length=K:=by rw[hks,cr,n1]
 have hll:ls.length=ks.length:=by have:=congrArg List.length hsh;rw[hkl,<-n1];simpa using this
 rw[ad5 n3 hll];obtain⟨cs,hcs⟩:∃cs,cs=ns.map Prod.snd++rs:=⟨_,rfl⟩;rw[<-hcs]at hcon;obtain⟨mc,hmc⟩:∃mc:Nat->aq->Value,mc=fun i=>m ((ks[i]?).getD 0):=⟨_,rfl⟩;have hget:∀i,i<K->∃n c a0,ks[i]?=some n/\cs[i]?=some c/\ns[i]?=some (n,c)/\args[i]?=some a0/\SF st a0 n c/\mc i=m n:=by
  intro i hi;have e:ns[i]?=some (ns[i].1,ns[i].2):=by simp[n1,hi]
  have e':ks[i]?=some ns[i].1:=(congrArg (fun l:List Nat=>l[i]?) hks).trans (by rw[cz,e];rfl);obtain⟨a0,g1,g2⟩:=n4 i _ _ e;refine⟨ns[i].1,ns[i].2,a0,e',?_,e,g1,g2,by rw[hmc];simp[e']⟩;rw[hcs,na (by simpa[n1]using hi),cz,e];rfl
 have hRl:∀i p,ak (Rl K cs i) p->i<K/\∃n,ks[i]?=some n/\ak (st.roots n) p/\mc i=m n:=by
  intro i p ho;unfold Rl at ho;split at ho
  .rename_i hi;obtain⟨n,c,a0,e1,e2,_,_,e3,e4⟩:=hget i hi;rw[e2]at ho;exact⟨hi,n,e1,(e3.own p).1 ho,e4⟩
  .exact(aY ho).elim
 have hKc:∀b,aJ (Rl K cs) mc b->∃n∈ks,∃p,ak (st.roots n) p/\blk (m n p)=some b:=by
  rintro b ⟨i,p,ho,hb⟩;obtain⟨_,n,e1,e2,e3⟩:=hRl i p ho;rw[e3]at hb;exact⟨n,cd e1,p,e2,hb⟩
 have hnot:∀b,X.S st.roots m b->¬aJ (Rl K cs) mc b:=by
  intro b hs ho;obtain⟨n,_,p,h1,h2⟩:=hKc b ho;exact hs.2 ⟨n,p,h1,h2⟩
 have hS0:∀b,b<w.heap.size->X.S st.roots m b->(S b/\¬aJ (Rl K cs) mc b)/\w.heap[b]?=w.heap[b]?:=fun b _ hs=>⟨⟨hXS b hs,hnot b hs⟩,rfl⟩;have hnotS:∀b,S b->¬aJ (Rl K cs) mc b:=by
  intro b hs ho;obtain⟨n,hn,p,h1,h2⟩:=hKc b ho;exact hSn b hs n (by rw[<-hks];exact hn) p h1 h2
 refine Fj hop (hcon w S mc us ?_ ?_ ?_ ?_) hrun ?_
 .rw[hl,hcs];simp[n1];omega
 .intro i c0 hi hk;rw[hcs,ni (by simpa[n1]using hk)]at hi;simp only[cr,n1]at hi;obtain⟨u,e1,d0,e2⟩:=hrest us hl hrel (i-K) c0 hi;exact⟨u,d0,by rw[<-e1];congr 1;omega,az (fun b _ hb=>⟨⟨hb,hnotS b hb⟩,rfl⟩) d0 (fun _ _ _ h=>h) (fun h=>by simp at h) (fun h=>by simp at h) e2⟩
 .intro i c0 hi hk;obtain⟨n,c,a0,e1,e2,_,g1,g2,e3⟩:=hget i hk;rw[e2]at hi;simp only[cc]at hi;subst hi;obtain⟨u,h1,h2⟩:=hrel i _ g1;obtain⟨u0,d0,hr0⟩:=H.root n;rcases g2 with⟨nl,es,row,ea,g3,ec⟩|⟨nl,es,cap,rows,ea,g3,ec⟩
  .subst ea;obtain⟨nl',es',cap',rows',b,off,kk,f1,f2,f3⟩:=pf h2;have f1':(st.roots n).at []=some (.sl true nl' es' cap' rows'):=f1;rw[g3]at f1';simp only[C.at,cc,C.sl.injEq,true_and]at f1';obtain⟨rfl,rfl,rfl,rfl⟩:=f1';have hr0':=hr0;rw[g3]at hr0';obtain⟨a1,k1,D,q1,q2,q3,q4,q5,_⟩:=ei hr0';have hk1:k1=1:=q5 1 rfl;have hu0:u0=m n []:=by rw[q1,q2]
   rw[f2]at q2;simp only[Value.slice.injEq]at q2;obtain⟨q2a,_,q2c⟩:=q2;refine⟨u,d0,h1,?_,?_⟩
   .rw[ec];exact⟨b,off,by rw[f3];simp,by rw[e3,f2,q2c,hk1];rfl⟩
   .rw[e3,<-hu0,ec,<-g3];refine az hS0 d0 (fun _ _ _ h=>h) (fun _ _ _ _ _ _=>rfl) (fun _ _ _=>rfl) hr0
  .subst ea;obtain⟨nl',es',cap',rows',a1,k,a',k',f1,f2,f3,f4,f5,f6,f7,f8,f9⟩:=eD h2;have f1':(st.roots n).at []=some (.sl true nl' es' cap' rows'):=f1;rw[g3]at f1';simp only[C.at,cc,C.sl.injEq,true_and]at f1';obtain⟨rfl,rfl,rfl,rfl⟩:=f1';have hr0':=hr0;rw[g3]at hr0';obtain⟨a2,k1,D,q1,q2,_⟩:=ei hr0';have hu0:u0=m n []:=by rw[q1,q2]
   have hkk:=f8 rfl;refine⟨u,d0,h1,?_,?_⟩
   .rw[ec];show u=mc i []∨_;rw[e3,f2,f4];rcases f9 with f9|⟨b,off,z1,z2⟩
    .right;have hl:rows.length=0:=oZg;have hk0:k=0:=oZg;exact⟨a',a1,by rw[hl,f9],by rw[hl,hk0]⟩
    .left;rw[z1,z2,show k'=k by omega];simp
   .rw[e3,<-hu0,ec];rw[g3]at hr0;refine az hS0 d0 (fun _ _ _ h=>h) (fun _ _ _ _ _ _=>rfl) (fun _ _ _=>rfl) (XF hr0)
 .intro i p i' p' b h1 h2 h3 h4;obtain⟨_,n,e1,e2,e3⟩:=hRl i p h1;obtain⟨_,n',e1',e2',e3'⟩:=hRl i' p' h2;rw[e3]at h3;rw[e3']at h4;obtain⟨rfl,rfl⟩:=H.inj _ _ _ _ b e2 e2' h3 h4;exact⟨(List.getElem?_inj (cg.1 e1).1 n3).1 (e1.trans e1'.symm),rfl⟩
 .rintro u w' ⟨mk,⟨dr,hr⟩,hroots,hinj,hown,hfr⟩;obtain⟨mk',hmk⟩:∃mk':Nat->aq->Value,mk'=fun n=>mk (ks.idxOf n):=⟨_,rfl⟩;have hix:∀n,n∈ks->ks.idxOf n<K/\ks[ks.idxOf n]?=some n/\∃c,ls[ks.idxOf n]?=some c:=by
   intro n hn;have h1:=List.idxOf_lt_length_of_mem hn;refine⟨oZg,by simp[h1],?_⟩;exact⟨ls[ks.idxOf n]'oZg,cj _⟩
  have hRk:∀n,n∈ks->Rl K ls (ks.idxOf n)=(ls[ks.idxOf n]?).getD .dead:=by intro n hn;simp[Rl,(hix n hn).1]
  have hOL:∀b,ZE ks (fun n=>(ls[ks.idxOf n]?).getD .dead) mk' b->aJ (Rl K ls) mk b:=by
   rintro b ⟨n,hn,p,h1,h2⟩;exact⟨ks.idxOf n,p,by rw[hRk n hn];exact h1,by rw[hmk]at h2;exact h2⟩
  rw[hdst];refine UG (Kc:=aJ (Rl K cs) mc) (mk:=mk') (tr:=fun n=>(ls[ks.idxOf n]?).getD .dead) H ⟨dr,hr⟩ ?_ ?_ ?_ ?_ ?_ ?_ hfr
  .intro n hn;obtain⟨h1,h2,c0,h3⟩:=hix n hn;obtain⟨_,uu,dd,h4⟩:=hroots _ c0 h3;exact⟨uu,dd,by rw[hmk];simpa[h3]using h4⟩
  .intro n hn;obtain⟨h1,h2,c0,h3⟩:=hix n hn;obtain⟨n',c,a0,e1,e2,e5,e6,e7,e8⟩:=hget _ h1;rw[h2]at e1;obtain rfl:=cX e1;have g4:dC c0=dC c:=by
    have:=congrArg (fun l=>l[ks.idxOf n]?) hsh;simp only[cz,h3,e5,cI,cc]at this;exact this
   have e9:mk (ks.idxOf n) []=m n []:=by rw[(hroots _ c0 h3).1,e8]
   rcases e7 with⟨nl,es,row,_,g3,ec⟩|⟨nl,es,cap,rows,_,g3,ec⟩
   .rw[ec]at g4;obtain⟨nl',cap',rows',z1,z2⟩:=Cg g4;rcases z2 with⟨_,z3,row',z4⟩|⟨z3,_,_⟩
    .exact⟨nl,es,some 1,[row],nl',cap',rows',g3,by simp[h3,z1],by rw[z4];rfl,by rw[hmk];exact e9⟩
    .cases z3
   .rw[ec]at g4;obtain⟨nl',cap',rows',z1,z2⟩:=Cg g4;rcases z2 with⟨z3,_⟩|⟨z3,z4,_⟩
    .cases z3
    .exact⟨nl,es,cap,rows,nl',cap',rows',g3,by simp[h3,z1],by simpa using z3.symm,by rw[hmk];exact e9⟩
  .rintro b hlt ⟨h1,h2⟩;refine⟨fun hb=>?_,fun h=>h2 (hOL b h)⟩;rcases h1 with h1|h1|h1
   .exact .inl ⟨hg b h1,hnot b (hg b h1)⟩
   .exact .inr h1
   .omega
  .intro n hn n' hn' q q' b h1 h2 h3 h4;rw[hmk]at h3 h4;have:=hinj (ks.idxOf n) q (ks.idxOf n') q' b (by rw[hRk n hn];exact h1) (by rw[hRk n' hn'];exact h2) h3 h4;refine⟨?_,this.2⟩;have e1:=(hix n hn).2.1;have e2:=(hix n' hn').2.1;rw[this.1,e2]at e1;exact(cX e1).symm
  .intro b h;exact hown b (hOL b h)
  .exact hKc
theorem YT{E:Env}(hG:GOk P E)(H:av X m st a w){o:Oper}{c:Call}(hop:o.op=.call c){d f:Nat}(hdst:o.dst=some d){args:List C}(hc:gC st c=some (f,args)){fl:FnL}(hfl:E.L d f=some fl)(hk0:fl.k≠0)
  {st':St} (hx:Jm d fl args st=some st') {Qx:Exit->Act->World->Prop}:o.wp P a w (fun a' w'=>∃m',av X m' st' a' w') Qx:=by
 unfold Jm at hx;split at hx
 case h_2=>cases hx
 rename_i ns hns;split at hx
 case isFalse=>cases hx
 rename_i hok;split at hx
 case h_2=>cases hx
 rename_i r ls hfn;split at hx
 case isFalse=>cases hx
 rename_i hsh;simp only[cc]at hx;subst hx;obtain⟨n1,n2,n3,n4⟩:=Ki hns;have hcon:=(hG.2 d f fl hfl).con hk0 (ns.map Prod.snd) (args.drop fl.k) r ls (by simp[n1]) hfn;refine adM H hop hdst hc hns (rs:=args.drop fl.k) oZk (S:=X.S st.roots m) (fun _ h=>h) (fun b hs n _ p ho hb=>hs.2 ⟨n,p,ho,hb⟩) ?_ (g:=fun S=>S) hcon (fun _ h=>h) hsh;intro us hl hrel i c0 hi;rw[nz]at hi;obtain⟨u,e1,d0,e2⟩:=hrel (fl.k+i) c0 hi;have hco:FV c0=true:=cE.1 hok c0 (cd (i:=i) oZf);exact⟨u,e1,d0,az (fun b _ hb=>⟨hb,rfl⟩) d0 (fun v _ ho _=>(Uz hco d0 ho).elim) (fun h=>by simp at h) (fun h=>by simp at h) e2⟩
end
section
variable {X:Ctx} {m:Nat->aq->Value} {st:St} {a:Act} {w:World} {P:Program}
def afC{R R':Nat->C}{m m':Nat->aq->Value}{d i j:Nat}{u:Value}(hR:R' d=R 0)(hm:m' d []=m 0 [])(h:Lv R m (.pref 0 [] i j) u):Lv R' m' (.pref d [] i j) u:=by
 obtain⟨nl,es,cap,rows,b,off,k,h1,h2,h3⟩:=h;exact⟨nl,es,cap,rows,b,off,k,oZf,oZf,h3⟩
theorem X1{w:World}{S S':Nat->Prop}{R R':Nat->C}{m m':Nat->aq->Value}{d D:Nat}{p p':aq}{c:C}{u:Value}(hR:R' d=R 0)(hm:m' d []=m 0 [])(hc:XT c=true)(h:rel w S (Lv R m) dm false D p c u):rel w S' (Lv R' m') dm false D p' (X6 d c) u:=by
 cases D with
 | zero=>exact h.elim
 | succ D=>
  unfold XT at hc;split at hc
  .exact afC hR hm h
  .exact h
  .cases hc
def acK{w:World}{S S':Nat->Prop}{R R':Nat->C}{m m':Nat->aq->Value}{d D:Nat}{c:C}{u:Value}(hR:R' d=R 0)(hm:m' d []=m 0 [])(hc:ZQ c=true)(h:rel w S (Lv R m) dm false D [] c u):rel w S' (Lv R' m') dm false D [] (Tt d c) u:=by
 unfold ZQ at hc;split at hc
 .rename_i cs;cases D with
  | zero=>exact h.elim
  | succ D=>
   obtain⟨arr,h1,h2,h3⟩:=h;refine⟨arr,h1,oZf,?_⟩;intro j c' hj;simp only[cz,cq]at hj;obtain⟨c0,hj,rfl⟩:=hj
   grind[X1]
 .rename_i hn;have e:Tt d c=X6 d c:=by
   unfold Tt;split
   .rename_i cs;exact(hn cs rfl).elim
   .rfl
  grind[X1]
theorem aaC{E:Env}(hG:GOk P E)(H:av X m st a w){o:Oper}{c:Call}(hop:o.op=.call c){d f:Nat}(hdst:o.dst=some d){args:List C}(hc:gC st c=some (f,args)){fl:FnL}(hfl:E.L d f=some fl)(hk0:fl.k=0)(hdH:d<H0)
  {st':St} (hx:LB d fl args st=some st') {Qx:Exit->Act->World->Prop}:o.wp P a w (fun a' w'=>∃m',av X m' st' a' w') Qx:=by
 obtain⟨us,hl,hrel,hrun⟩:=yu (P:=P) (ty:=o.type) H hc;unfold LB at hx;split at hx
 case h_2=>cases hx
 rename_i cs hsn;split at hx
 case isFalse=>cases hx
 rename_i hno;split at hx
 case h_2=>cases hx
 rename_i r c0 hfn;split at hx
 case isFalse=>cases hx
 rename_i hnew;simp only[cc]at hx;subst hx;obtain⟨s1,s2⟩:=FG (N:=fun _=>True) H hl hrel (fun _ _ _ _ _ _ _ _=>trivial) hsn;have hcon:=(hG.2 d f fl hfl).new hk0 cs r c0 hfn;have hnv:args.any ml=false:=by
  simp_all
 have hargs:∀(j:Nat) (c:C),cs[j]?=some c->∃u d0,us[j]?=some u/\rel w (X.S st.roots m) L0 dm false d0 [] c u:=by
  intro j c hj;obtain⟨u,e1,d1,e2⟩:=s2 j c hj;refine⟨u,d1,e1,az (fun b _ hb=>⟨?_,rfl⟩) d1 (fun _ _ _ h=>h) (fun h=>by simp at h) (fun h=>by simp at h) e2⟩
  grind
 refine Fj hop (hcon w (X.S st.roots m) us oZg hargs) hrun ?_;rintro u w' ⟨mk,⟨D1,q1⟩,⟨uu,D2,q2⟩,q3,q4,q5⟩;rw[hdst];obtain⟨h1,hd1⟩:=sd H d;have hon:=uw H hdH;have:=Dy h1 (d:=d) (ks:=[]) (own:=true) (r:=c0) (u:=uu) (w':=w') (mr:=mk) (Sr:=fun b=>(X.S st.roots m b∨w.heap.size<=b)/\¬jM c0 mk b) (Kc:=fun _=>False) (tmps0:=(st.fresh d).tmps)
  (fun _=>hd1) oZk oZk q2 (by
   rintro b _ ⟨e2,e3⟩;refine⟨fun hlt=>.inl ⟨?_,id⟩,e3⟩;rcases e2 with e2|e2
   .exact hon.S b hlt e2
   .omega) q3 (fun b hb=>.inl (q4 b hb)) oZk q5 rfl (by
   intro t c0 ht;refine .inr ⟨ht,fun v uv dd ho hl=>?_⟩;cases hp:v.place with
   | none=>cases v<;>simp[C.place]at hp<;>exact hl.elim
   | some np=>
    obtain⟨n,p⟩:=np;exact⟨n,p,rfl,oZk,fun _=>by rintro rfl;grind[CX]⟩)
 have e:(fun n=>if n=d/\true=true then c0 else if n∈([]:List Nat)then C.dead else(st.fresh d).roots n)=upd (st.fresh d).roots d c0:=by
  funext n;simp[upd]
 rw[e]at this;obtain⟨m',hm'⟩:∃m':Nat->aq->Value,m'=fun n p=>if n=d/\true=true then mk p else m n p:=⟨_,rfl⟩
 rw[<-hm']at this;refine⟨m',?_⟩;have fin:=this.putTmp d (c:=Tt d r) (u:=u) ⟨D1,acK (R:=R1 c0) (m:=fun _=>mk) (by simp[R1,aI]) (by simp[hm']) hnew q1⟩
 simp_all[Act.put]
theorem YH{E:Env}(hG:GOk P E)(H:av X m st a w){o:Oper}{c:Call}(hop:o.op=.call c){d f:Nat}(hdst:o.dst=some d){args:List C}(hc:gC st c=some (f,args)){fl:FnL}(hfl:E.L d f=some fl)
  {st':St} (hx:JE d fl args st=some st') {Qx:Exit->Act->World->Prop}:o.wp P a w (fun a' w'=>∃m',av X m' st' a' w') Qx:=by
 obtain⟨us,hl,hrel,hrun⟩:=yu (P:=P) (ty:=o.type) H hc;unfold JE at hx;split at hx
 case h_2=>cases hx
 rename_i n p len rest;split at hx
 case isFalse=>cases hx
 rename_i hcond;obtain⟨hk1,hpe,hok⟩:=hcond;split at hx
 case h_2=>cases hx
 rename_i nl0 es0 cap0 rows0 nl es cap rows hroot hnode;split at hx
 case isFalse=>cases hx
 rename_i hlen;split at hx
 case h_2=>cases hx
 rename_i r c1 hfn;split at hx
 case isFalse=>cases hx
 rename_i hsh;simp only[cc]at hx;subst hx;rw[<-hroot];have hnode':(st.roots n).at p=some (.sl true nl es cap rows):=hnode;have hpne:p≠[]:=by intro h;rw[h]at hpe;cases hpe
 have hcon:=(hG.2 d f fl hfl).con oZg [.sl true none es none rows] rest r [c1] (by simp[hk1]) hfn;rw[hk1]at hcon;obtain⟨cs,hcs⟩:∃cs,cs=[C.sl true none es none rows]++rest:=⟨_,rfl⟩;rw[<-hcs]at hcon;obtain⟨mc,hmc⟩:∃mc:Nat->aq->Value,mc=fun i q=>m n (p++q):=⟨_,rfl⟩;have hown_in:∀q,ak (C.sl true none es none rows) q->ak (st.roots n) (p++q):=by
  intro q ho;unfold ak at ho ⊢;rw[C.at_append,hnode',cb];cases q with
  | nil=>rfl
  | cons x q=>exact ho
 have hRl:∀i q,ak (Rl 1 cs i) q->i=0/\ak (C.sl true none es none rows) q:=by
  intro i q ho;unfold Rl at ho;split at ho
  .rename_i hi;have:i=0:=oZg;subst this;rw[hcs]at ho;exact⟨rfl,ho⟩
  .exact(aY ho).elim
 have hKc:∀b,aJ (Rl 1 cs) mc b->∃q,ak (st.roots n) (p++q)/\blk (m n (p++q))=some b:=by
  rintro b ⟨i,q,ho,hb⟩;obtain⟨_,h2⟩:=hRl i q ho;rw[hmc]at hb;exact⟨q,hown_in q h2,hb⟩
 have hnot:∀b,X.S st.roots m b->¬aJ (Rl 1 cs) mc b:=by
  intro b hs ho;obtain⟨q,h1,h2⟩:=hKc b ho;exact hs.2 ⟨n,_,h1,h2⟩
 have hS0:∀b,b<w.heap.size->X.S st.roots m b->(X.S st.roots m b/\¬aJ (Rl 1 cs) mc b)/\w.heap[b]?=w.heap[b]?:=fun b _ hs=>⟨⟨hs,hnot b hs⟩,rfl⟩;obtain⟨u0,d0,hr0⟩:=H.root n;obtain⟨u1,d1,hr1⟩:=A8 p hr0 hnode';simp only[cO]at hr1;obtain⟨a1,k1,D,q1,q2,q3,q4,q5,q6,q7,q8⟩:=ei hr1;refine Fj hop (hcon w (X.S st.roots m) mc us ?_ ?_ ?_ ?_) hrun ?_
 .rw[hl,hcs];simp
 .intro i c0 hi hk;rw[hcs]at hi;obtain⟨i,rfl⟩:∃i',i=i'+1:=⟨i-1,oZg⟩;have hi':rest[i]?=some c0:=by simpa using hi
  obtain⟨u,e1,d2,e2⟩:=hrel (i+1) c0 (by simpa using hi');have hco:FV c0=true:=cE.1 hok c0 (cd hi');exact⟨u,d2,e1,az hS0 d2 (fun v _ ho _=>(Uz hco d2 ho).elim) (fun h=>by simp at h) (fun h=>by simp at h) e2⟩
 .intro i c0 hi hk;have hi0:i=0:=oZg;subst hi0;rw[hcs]at hi;simp only[nF,cG,cc]at hi;subst hi;obtain⟨u,h1,h2⟩:=hrel 0 _ rfl;obtain⟨nl',es',cap',rows',a2,k2,a',k',f1,f2,f3,f4,f5,f6,f7,f8,f9⟩:=eD h2;rw[hnode']at f1;simp only[cc,C.sl.injEq,true_and]at f1;obtain⟨rfl,rfl,rfl,rfl⟩:=f1;have hkk:=f8 rfl;refine⟨u,d1,h1,?_,?_⟩
  .show u=mc 0 []∨_;rw[hmc];simp only[nn];rw[f2,f4];rcases f9 with f9|⟨b,off,z1,z2⟩
   .right;have hl:rows.length=0:=oZg;have hk0:k2=0:=oZg;exact⟨a',a2,by rw[<-hlen,hl,f9],by rw[hl,hk0]⟩
   .left;rw[z1,z2,show k'=k2 by omega,hlen];simp
  .have e0:mc 0 []=u1:=by rw[q1,hmc];simp
   rw[e0,show mc 0=(fun q=>m n (p++q))from by rw[hmc]];exact az (m:=m n) (m':=fun q=>m n (p++q)) (p:=p) (p':=[]) hS0 d1 (fun _ _ _ h=>h) (fun _ _ _ _ _ _=>rfl) (fun _ q _=>by simp) (XF hr1)
 .intro i q i' q' b h1 h2 h3 h4;obtain⟨rfl,g1⟩:=hRl i q h1;obtain⟨rfl,g2⟩:=hRl i' q' h2;rw[hmc]at h3 h4;have:=(H.inj _ _ _ _ b (hown_in q g1) (hown_in q' g2) h3 h4).2;exact⟨rfl,ajl this⟩
 .rintro u w' ⟨mk,⟨dr,hr⟩,hroots,hinj,hown,hfr⟩;obtain⟨hm0,uu,dd,hrl⟩:=hroots 0 c1 rfl;have hc1:∃rows',c1=.sl true none es none rows'/\rows'.length=rows.length:=by
   obtain⟨nl',cap',rows',y1,y2⟩:=Cg hsh;rcases y2 with⟨y3,_⟩|⟨y3,rfl,rfl⟩
   .cases y3
   .exact⟨rows',y1,by simpa using y3.symm⟩
  obtain⟨rows',rfl,hrl'⟩:=hc1;obtain⟨mk',hmk⟩:∃mk':Nat->aq->Value,mk'=fun n' q=>if p <+: q then mk 0 (q.drop p.length)else m n' q:=⟨_,rfl⟩
  have mk_in:∀n' q,mk' n' (p++q)=mk 0 q:=by intro n' q;rw[hmk];simp
  have mk_out:∀n' q,(∀r,q≠p++r)->mk' n' q=m n' q:=by
   intro n' q h;rw[hmk];simp only;rw[if_neg];rintro⟨r,hr⟩;exact h r hr.symm
  obtain⟨tr,htr⟩:∃tr:Nat->C,tr=fun _=>(st.roots n).turn (fun _=>.sl true none es none rows') p:=⟨_,rfl⟩;have eR:upd st.roots n ((st.roots n).turn (fun _=>.sl true none es none rows') p)=vG [n] tr st.roots:=by
   funext x
   by_cases e:x=n
   .subst e;simp[upd,vG,htr]
   .simp[upd,vG,e]
  rw[hroot]at eR ⊢;rw[eR];have hOw1:∀b,aJ (Rl 1 [C.sl true none es none rows']) mk b↔∃q,ak (C.sl true none es none rows') q/\blk (mk 0 q)=some b:=by
   intro b;constructor
   .rintro⟨i,q,ho,hb⟩;unfold Rl at ho;split at ho
    .rename_i hi;have:i=0:=oZg;subst this;exact⟨q,ho,hb⟩
    .exact(aY ho).elim
   .rintro⟨q,ho,hb⟩;exact⟨0,q,by simpa[Rl]using ho,hb⟩
  have hsplit:∀q b,ak (tr n) q->blk (mk' n q)=some b->(∃r,q=p++r/\ak (C.sl true none es none rows') r/\blk (mk 0 r)=some b)∨((∀r,q≠p++r)/\ak (st.roots n) q/\blk (m n q)=some b):=by
   intro q b ho hb;rw[htr]at ho;rcases ak.of_turn hnode' ho with⟨r,rfl,h2⟩|⟨h1,h2⟩
   .rw[mk_in]at hb;exact .inl ⟨r,rfl,h2,hb⟩
   .rw[mk_out n q h1]at hb;exact .inr ⟨h1,h2,hb⟩
  have hoff:∀q b,(∀r,q≠p++r)->ak (st.roots n) q->blk (m n q)=some b->¬aJ (Rl 1 cs) mc b:=by
   intro q b h1 h2 h3 h4;obtain⟨q',h5,h6⟩:=hKc b h4;exact h1 q' (H.inj _ _ _ _ b h2 h5 h3 h6).2
  have hoff2:∀q b,(∀r,q≠p++r)->ak (st.roots n) q->blk (m n q)=some b->¬aJ (Rl 1 [C.sl true none es none rows']) mk b:=by
   intro q b h1 h2 h3 h4;rcases hown b h4 with h|h
   .have:=H.lt h2 h3;omega
   .exact hoff q b h1 h2 h3 h
  rw[hdst];have hKK:∀b,aJ (Rl 1 cs) mc b->∃q,ak (st.roots n) q/\blk (m n q)=some b:=fun b h=>let⟨q,h1,h2⟩:=hKc b h;⟨_,h1,h2⟩
  refine UG (ks:=[n]) (Kc:=fun b=>∃q,ak (st.roots n) q/\blk (m n q)=some b) (mk:=mk') (tr:=tr) H ⟨dr,hr⟩ ?_ ?_ ?_ ?_ ?_ ?_ ⟨hfr.os,hfr.tape,hfr.output,hfr.drawn,hfr.size,fun b hb hn=>hfr.block b hb (fun h=>hn (hKK b h))⟩
  .intro n' hn;simp only[cK]at hn;subst hn;have hSt:∀b,b<w.heap.size->X.S st.roots m b->((X.S st.roots m b∨aJ (Rl 1 cs) mc b∨w.heap.size<=b)/\¬aJ (Rl 1 [C.sl true none es none rows']) mk b)/\w'.heap[b]?=w.heap[b]?:=by
    intro b hb hs;refine⟨⟨.inl hs,fun h=>?_⟩,hfr.block b hb (hnot b hs)⟩;rcases hown b h with h|h
    .omega
    .exact hnot b hs h
   obtain⟨d',hd'⟩:=Fi (f:=fun _=>C.sl true none es none rows') (m':=mk' n') hSt p hr0 hnode' (by
    intro q1 b ho hne hb hlt;simp only[cO]at hb;exact hfr.block b hlt (hoff q1 b hne ho hb)) (by
    intro q1 ho hne;simp only[cO];exact mk_out n' q1 hne) (by
    intro u2 d2 h2;simp only[cO]at h2 ⊢;obtain⟨_,_,_,g1,_⟩:=ei h2;obtain⟨_,_,_,g3,_⟩:=ei hrl;have e1:u2=uu:=by
     have e2:mc 0 []=m n' p:=by rw[hmc];simp
     rw[g3,hm0,e2];exact g1
    rw[e1];exact⟨dd,az (m:=mk 0) (m':=mk' n') (p:=[]) (p':=p) (fun b _ h=>⟨h,rfl⟩) dd (fun _ _ _ h=>h) (fun _ _ _ _ _ _=>rfl) (fun _ q _=>by simpa using mk_in n' q) hrl⟩)
   exact⟨_,d',by rw[htr];exact hd'⟩
  .intro n' hn;simp only[cK]at hn;subst hn;have e0:mk' n' []=m n' []:=mk_out n' [] (by intro r h;exact hpne (by cases p with|nil=>rfl|cons _ _=>simp at h));obtain⟨x,p',rfl⟩:∃x p',p=x::p':=by cases p with|nil=>exact(hpne rfl).elim|cons x p'=>exact⟨x,p',rfl⟩
   have e5:tr n'=.sl true nl0 es0 cap0 (rows0.modify x.1 (·.modify x.2 (C.turn (fun _=>C.sl true none es none rows') · p'))):=by
    rw[htr];show(st.roots n').turn _ _=_;rw[hroot];rfl
   exact⟨nl0,es0,cap0,rows0,nl0,cap0,_,hroot,e5,oZk,e0⟩
  .rintro b hlt ⟨h1,h2⟩;refine⟨fun hb=>?_,?_⟩
   .rcases h1 with h1|h1|h1
    .exact .inl ⟨h1,fun⟨q,h3,h4⟩=>h1.2 ⟨_,q,h3,h4⟩⟩
    .exact .inr (hKK b h1)
    .omega
   .rintro⟨n',hn,q,h3,h4⟩;simp only[cK]at hn;subst hn;rcases hsplit q b h3 h4 with⟨r',rfl,h5,h6⟩|⟨h5,h6,h7⟩
    .exact h2 ((hOw1 b).2 ⟨r',h5,h6⟩)
    .rcases h1 with h1|h1|h1
     .exact h1.2 ⟨_,q,h6,h7⟩
     .exact hoff q b h5 h6 h7 h1
     .have:=H.lt h6 h7;omega
  .intro n1 hn1 n2 hn2 q q' b h1 h2 h3 h4;simp only[cK]at hn1 hn2;subst hn1;subst hn2;refine⟨rfl,?_⟩;rcases hsplit q b h1 h3 with⟨r1,rfl,g1,g2⟩|⟨g0,g1,g2⟩<;>rcases hsplit q' b h2 h4 with⟨r2,rfl,f1,f2⟩|⟨f0,f1,f2⟩
   .have:=hinj 0 r1 0 r2 b (by simpa[Rl]using g1) (by simpa[Rl]using f1) g2 f2;rw[this.2]
   .exact(hoff2 _ b f0 f1 f2 ((hOw1 b).2 ⟨r1,g1,g2⟩)).elim
   .exact(hoff2 _ b g0 g1 g2 ((hOw1 b).2 ⟨r2,f1,f2⟩)).elim
   .exact(H.inj _ _ _ _ b g1 f1 g2 f2).2
  .rintro b ⟨n',hn,q,h3,h4⟩;simp only[cK]at hn;subst hn;rcases hsplit q b h3 h4 with⟨r',rfl,h5,h6⟩|⟨h5,h6,h7⟩
   .exact(hown b ((hOw1 b).2 ⟨r',h5,h6⟩)).imp id (hKK b)
   .exact .inr ⟨q,h6,h7⟩
  .rintro b ⟨q,h1,h2⟩;exact⟨n,oZk,_,h1,h2⟩
theorem X0{E:Env}(hG:GOk P E)(H:av X m st a w){o:Oper}{c:Call}(hop:o.op=.call c){d f:Nat}(hdst:o.dst=some d){args:List C}(hc:gC st c=some (f,args)){fl:FnL}(hfl:E.L d f=some fl)(hk0:fl.k≠0)
  {st':St} (hx:JA d fl args st=some st') {Qx:Exit->Act->World->Prop}:o.wp P a w (fun a' w'=>∃m',av X m' st' a' w') Qx:=by
 unfold JA at hx;split at hx
 case h_2=>cases hx
 rename_i ns hns;split at hx
 case isFalse=>cases hx
 rename_i hcond;obtain⟨hpure,hsee,hother⟩:=hcond;split at hx
 case h_2=>cases hx
 rename_i rs hrs;split at hx
 case h_2=>cases hx
 rename_i r ls hfn;split at hx
 case isFalse=>cases hx
 rename_i hsh;simp only[cc]at hx;subst hx;obtain⟨n1,n2,n3,n4⟩:=Ki hns;obtain⟨vs,hvs⟩:∃vs,vs=(args.drop fl.k).flatMap DG:=⟨_,rfl⟩;rw[<-hvs]at hsee hother;have hcon:=(hG.2 d f fl hfl).pur hk0 hpure (ns.map Prod.snd) rs r ls (by simp[n1]) hfn;have hS:∀c∈args.drop fl.k,QV (fun n=>n∈vs) c:=by
  intro c hcm dd v n p ho hp;have h1:=cE.1 hsee c hcm;obtain⟨n',p',e1,e2⟩:=jB dd 3 c v (by simpa using h1) ho
  simp_all
 obtain⟨us0,hl0,hrel0,_⟩:=yu (P:=P) (ty:=o.type) H hc;have hlen:rs.length=(args.drop fl.k).length:=(FG (N:=fun n=>n∈vs) H (us:=us0.drop fl.k) (cs:=args.drop fl.k) (by simp[hl0]) (by
  simp_all) hS hrs).1
 refine adM H hop hdst hc hns (rs:=rs) oZf (S:=fun b=>X.S st.roots m b∨tO (fun n=>n∈vs) st.roots m b) (fun _ h=>.inl h) ?_ ?_ (g:=fun _ _=>False) hcon (fun _ h=>h.elim) hsh
 .rintro b (hs|⟨n',p',hn',ho',hb'⟩) n hn p ho hb
  .exact hs.2 ⟨n,p,ho,hb⟩
  .obtain⟨rfl,_⟩:=H.inj _ _ _ _ b ho' ho hb' hb
   grind
 .intro us hl hrel i c0 hi;obtain⟨_,s2⟩:=FG (N:=fun n=>n∈vs) H (us:=us.drop fl.k) (cs:=args.drop fl.k) (by simp[hl]) (by
   simp_all) hS hrs
  obtain⟨u,e1,e2⟩:=s2 i c0 hi;rw[nz]at e1;exact⟨u,e1,e2.mono (fun b hb=>hb.imp id (fun h=>h.2))⟩
def acU{E:Env}(hG:GOk P E)(H:av X m st a w){o:Oper}{c:Call}(hop:o.op=.call c){d f:Nat}(hdst:o.dst=some d){args:List C}(hc:gC st c=some (f,args)){fl:FnL}(hfl:E.L d f=some fl)
  {st':St} (hx:VQ d fl args st=some st') (hdH:d<H0) {Qx:Exit->Act->World->Prop}:o.wp P a w (fun a' w'=>∃m',av X m' st' a' w') Qx:=by
 grind[VQ,aaC,YT,YH,X0]
end
def eb(o:Oper)(st:St):Option C->Option St
 | some c=>some (st.put o.dst c)
 | none=>none
def Pv(E:Env)(o:Oper)(c:Call)(st:St):Option St:=
 match o.dst,gC st c with
 | some d,some (f,args)=>if d<H0 then PB E d f args st else none
 | _,_=>none
def mL(E:Env)(o:Oper)(st:St):Option St:=
 match o.op with
 | .alloc t=>match o.dst,E.T t with
  | some d,some ti=>some (OS d ti st)
  | _,_=>none
 | .box t x=>match o.dst,E.T t with
  | some d,some ti=>Tq d ti x st
  | _,_=>none
 | .buildSlice t len parts=>match o.dst,E.T t with
  | some d,some ti=>o7 E d ti len parts.toList st
  | _,_=>none
 | .store t x v=>match o.dst,E.T t with
  | none,some ti=>lS ti (st.ev x) (st.ev v) st
  | _,_=>none
 | .call c=>match c.callee with
  | .builtin .append=>match o.dst,c.args.toList,c.argTypes.toList with
   | some d,[s,x],[t,tx]=>match E.T t,E.T tx with
    | some ti,some tix=>match ti.kind,tix.kind with
     | .slice e es,.slice e' es'=>if e=e'/\es=es' then BE E d ti s x st else none
     | _,_=>none
    | _,_=>none
   | _,_,_=>none
  | .builtin _=>eb o st (qop E st (.call c))
  | _=>Pv E o c st
 | op=>eb o st (qop E st op)
def m9(E:Env)(o:Oper)(st:St):Option St:=
 match o.op with
 | .call {callee:=.builtin .append,args,argTypes}=>match o.dst,args.toList,argTypes.toList with
  | some d,[s,x],[t,tx]=>match E.T t,E.T tx with
   | some ti,some tix=>match ti.kind,tix.kind with
    | .slice e es,.slice e' es'=>if e=e'/\es=es' then(match E.F d with
     | some false=>(match E.T e with
      | some te=>D5 d es te (st.ev s) (st.ev x) st
      | none=>none)
     | some true=>(match E.T e with
      | some te=>ja d es te tix (st.ev s) (st.ev x) st
      | none=>none)
     | none=>zM d es (st.ev s) (st.ev x) st)else none
    | _,_=>none
   | _,_=>none
  | _,_,_=>none
 | _=>none
def iN(E:Env)(o:Oper)(st:St):Option St:=
 match o.op with
 | .makeSlice t l c=>match o.dst with
  | some d=>mkX E d t (st.ev l) (st.ev c) st
  | none=>none
 | .slice t x none (some hi) none=>match o.dst,E.T t with
  | some d,some ti=>match ti.kind with
   | .slice _ es=>C8 d es (st.ev x) (st.ev hi) st
   | _=>none
  | _,_=>none
 | .slice t x (some lo) (some hi) none=>match o.dst,E.T t with
  | some d,some ti=>match ti.kind with
   | .slice _ es=>Dt d es (st.ev x) (st.ev lo) (st.ev hi) st
   | _=>none
  | _,_=>none
 | .call {callee:=.builtin .clear,args,argTypes}=>match o.dst,args.toList,argTypes.toList with
  | none,[x],[t]=>match E.T t with
   | some ti=>match ti.kind with
    | .slice e es=>match E.T e with
     | some te=>Ce es te (st.ev x) st
     | none=>none
    | _=>none
   | none=>none
  | _,_,_=>none
 | .call {callee:=.builtin .append,args,argTypes}=>match o.dst,args.toList,argTypes.toList with
  | some d,[s,x],[t,tx]=>match E.T t,E.T tx with
   | some ti,some tix=>match ti.kind with
    | .slice e es=>match E.T e with
     | some te=>ja d es te tix (st.ev s) (st.ev x) st
     | none=>none
    | _=>none
   | _,_=>none
  | _,_,_=>none
 | .call {callee:=.builtin .copy,args,argTypes}=>match args.toList,argTypes.toList with
  | [s,x],[t,tx]=>match E.T t,E.T tx with
   | some ti,some tix=>match ti.kind,tix.kind with
    | .slice e es,.slice e' es'=>if e=e'/\es=es' then Hy o.dst es (st.ev s) (st.ev x) st else none
    | _,_=>none
   | _,_=>none
  | _,_=>none
 | .call {callee:=.builtin .cap,args,argTypes}=>match args.toList,argTypes.toList with
  | [x],[t]=>match E.T t with
   | some ti=>match ti.kind with
    | .slice _ _=>match yM st (st.ev x)with
     | some n=>some (st.put o.dst (.val (.int .i64 (n:Nat))))
     | none=>none
    | _=>none
   | none=>none
  | _,_=>none
 | _=>none
def exe(E:Env)(o:Oper)(st:St):Option St:=
 match m9 E o st with
 | some s=>some s
 | none=>match mL E o st with
  | some s=>some s
  | none=>iN E o st
def fF(E:Env)(ops:Array Oper)(o:Oper)(st:St):Option St:=
 match o.guard with
 | none=>exe E o st
 | some (j,want)=>match(ops[j]?).bind (·.dst)with
  | some t=>match st.tmps[t]? with
   | some (.val (.bool b))=>if b=want then exe E o st else some (st.put o.dst (.val undef))
   | some (.val (.tuple _))=>some (st.put o.dst (.val undef))
   | _=>none
  | none=>none
def uU(E:Env)(ops:Array Oper):List Oper->St->Option St
 | [],st=>some st
 | o::l,st=>match fF E ops o st with
  | some st'=>uU E ops l st'
  | none=>none
section
variable {X:Ctx} {m:Nat->aq->Value} {st:St} {a:Act} {w:World} {P:Program}
def jT{o:Oper}{u:Value}{w':World}(h:(execOp a.eval o).run P w=.ok (.value u) w'){K:Act->World->Prop}{Q:Exit->Act->World->Prop}(hk:K (a.put o.dst u) w'):o.wp P a w K Q:=by
 simp_all[Oper.wp,Oper.upon_value]
theorem aeU{E:Env}(hT:TOk P E)(hG:GOk P E)(H:Inv X st a w){o:Oper}{st':St}(h:mL E o st=some st'){K:Act->World->Prop}{Q:Exit->Act->World->Prop}(hk:∀a' w',Inv X st' a' w'->K a' w'):o.wp P a w K Q:=by
 obtain⟨m,H⟩:=H;have quiet:∀op,o.op=op->eb o st (qop E st op)=some st'->o.wp P a w K Q:=by
  intro op hop hp;cases hq:qop E st op with
  | none=>simp_all[eb]
  | some c=>
   simp only[hq,eb,cc]at hp;subst hp;obtain⟨v,e1,d,e2⟩:=V6 hT H (o:=o) (by rw[hop];exact hq);exact jT e1 (hk _ _ ⟨m,H.put o.dst e2⟩)
 unfold mL at h;split at h
 .rename_i t hop;split at h
  .rename_i d ti hd hti;simp only[cc]at h;subst h;obtain⟨u,w',e1,m',e2⟩:=acB hT H (hT t ti hti) d;refine jT (u:=u) (w':=w') ?_ (hk _ _ ⟨m',oZf⟩)
   simp_all[execOp]
  .simp at h
 .rename_i t x hop;split at h
  .rename_i d ti hd hti;obtain⟨u,w',e1,m',e2⟩:=afg hT H (hT t ti hti) h;refine jT (u:=u) (w':=w') ?_ (hk _ _ ⟨m',oZf⟩)
   simp_all[execOp]
  .simp at h
 .rename_i t len parts hop;split at h
  .rename_i d ti hd hti;obtain⟨u,w',e1,m',e2,_⟩:=Nc hT H (hT t ti hti) h;refine jT (u:=u) (w':=w') ?_ (hk _ _ ⟨m',oZf⟩)
   simp_all[execOp]
  .simp at h
 .rename_i t x v hop;split at h
  .rename_i ti hd hti;obtain⟨w',e1,m',e2⟩:=adA (E:=E) H (hT t ti hti) (bo H x) (bo H v) h;unfold Oper.wp;have hrun:(execOp a.eval o).run P w=.ok .skip w':=by simp_all[execOp]
   rw[hrun,Oper.upon_skip,hd];exact hk _ _ ⟨m',e2⟩
  .simp at h
 .rename_i c hop;split at h
  .rename_i hcal;split at h
   .rename_i d s x t tx hd hargs htys;split at h
    .rename_i ti tix hti htix;split at h
     .rename_i e es e' es' hk1 hk2;split at h
      .rename_i he;obtain⟨rfl,rfl⟩:=he;obtain⟨u,w',e1,m',e2,_⟩:=Vb (ty:=o.type) hT H (args:=c.args) (argTypes:=c.argTypes) (s:=s) (x:=x) (t:=t) (tx:=tx) oZi (by rw[<-htys]) hti htix (by rw[hk1,hk2]) h;refine jT (u:=u) (w':=w') ?_ (hk _ _ ⟨m',oZf⟩);obtain⟨callee,cargs,ctys⟩:=c;simp only at hcal;subst hcal;simp only[execOp,hop,resolve,Sem.run_bind,Sem.run_pure,Result.andThen_ok,invoke,builtin,e1]
      .simp at h
     .simp at h
    .simp at h
   .simp at h
  .simp_all
  .rename_i hb1 hb2;unfold Pv at h;split at h
   .rename_i d f args hd hct;split at h
    .rename_i hdH;unfold PB at h;split at h
     .rename_i fl hfl;exact Oper.wp_mono (fun a' w' h'=>hk a' w' h') (acU hG H hop hd hct hfl h hdH)
     split at h
     .rename_i fs hfs;split at h
      .rename_i hown;split at h
       .rename_i cs hsn;split at h
        .rename_i hpv;split at h
         .rename_i r hr;simp only[cc]at h;subst h;exact Oper.wp_mono (fun a' w' h=>hk a' w' ⟨h.choose,h.choose_spec.1⟩) (Zn hG H hop hd hct hfs hown hsn hpv hr hdH)
         .simp at h
        .exact Oper.wp_mono (fun a' w' h'=>hk a' w' h') (Yx hG H hop hd hct hfs hown h hdH)
       .simp at h
      .split at h
       .rename_i hpk;exact Oper.wp_mono (fun a' w' h'=>hk a' w' h') (adW hG H hop hd hct hfs hpk h)
       .exact Oper.wp_mono (fun a' w' h'=>hk a' w' (let⟨m',h1,_⟩:=h';⟨m',h1⟩)) (Sv hG H hop hd hct hfs h)
     .simp at h
    .simp at h
   .simp at h
 simp_all
theorem aeS{E:Env}(hT:TOk P E)(H:Inv X st a w){o:Oper}{st':St}(h:m9 E o st=some st'){K:Act->World->Prop}{Q:Exit->Act->World->Prop}(hk:∀a' w',Inv X st' a' w'->K a' w'):o.wp P a w K Q:=by
 obtain⟨m,H⟩:=H;unfold m9 at h;split at h
 case h_2=>simp at h
 rename_i cargs ctys hop;split at h
 case h_2=>simp at h
 rename_i d s x t tx hd hargs htys;split at h
 case h_2=>simp at h
 rename_i ti tix hti htix;split at h
 case h_2=>simp at h
 rename_i e es e' es' hk1 hk2;split at h
 case isFalse=>simp at h
 rename_i he;obtain⟨rfl,rfl⟩:=he;obtain⟨u,w',e1,m',e2⟩:∃u w',(Builtin.append_ #[t,tx] o.type #[a.eval s,a.eval x]).run P w=.ok u w'/\∃m',av X m' st' (a.put (some d) u) w':=by
  cases hF:E.F d with
  | some b=>
   cases b with
   | false=>
    simp only[hF]at h;split at h
    case h_2=>simp at h
    rename_i te hte;exact W4 (ty:=o.type) hT H (hT t ti hti) (hT tx tix htix) hk1 hk2 (hT e te hte) (bo H s) (bo H x) h
   | true=>
    simp only[hF]at h;split at h
    case h_2=>simp at h
    rename_i te hte;exact H8 (ty:=o.type) hT H (hT t ti hti) (hT tx tix htix) hk1 (hT e te hte) (bo H s) (bo H x) h
  | none=>
   simp only[hF]at h;exact Vh (ty:=o.type) hT H (hT t ti hti) (hT tx tix htix) hk1 hk2 (bo H s) (bo H x) h
 refine jT (u:=u) (w':=w') ?_ (hk _ _ ⟨m',oZf⟩);have ha:cargs=#[s,x]:=oZi;have hty:ctys=#[t,tx]:=by rw[<-htys]
 simp_all[execOp,resolve,invoke,builtin]
theorem aef{E:Env}(hT:TOk P E)(H:Inv X st a w){o:Oper}{st':St}(h:iN E o st=some st'){K:Act->World->Prop}{Q:Exit->Act->World->Prop}(hk:∀a' w',Inv X st' a' w'->K a' w'):o.wp P a w K Q:=by
 obtain⟨m,H⟩:=H;unfold iN at h;split at h
 .rename_i t l c hop;split at h
  case h_2=>simp at h
  rename_i d hd;unfold mkX at h;split at h
  case h_2=>simp at h
  rename_i ti hti;split at h
  case h_2=>simp at h
  rename_i e es hk1;split at h
  case h_2=>simp at h
  rename_i te hte;obtain⟨u,w',e1,m',e2⟩:=aeT hT H (hT t ti hti) hk1 (hT e te hte) (bo H l) (bo H c) h;refine jT (u:=u) (w':=w') ?_ (hk _ _ ⟨m',oZf⟩)
  simp_all[execOp]
 .rename_i t x hi hop;split at h
  case h_2=>simp at h
  rename_i d ti hd hti;split at h
  case h_2=>simp at h
  rename_i e es hk1;obtain⟨u,e1,m',e2⟩:=Z8 H (hT t ti hti) hk1 (bo H x) (bo H hi) h;refine jT (u:=u) (w':=w) ?_ (hk _ _ ⟨m',oZf⟩)
  simp_all[execOp]
 .rename_i t x lo hi hop;split at h
  case h_2=>simp at h
  rename_i d ti hd hti;split at h
  case h_2=>simp at h
  rename_i e es hk1;obtain⟨u,e1,m',e2⟩:=YE H (hT t ti hti) hk1 (bo H x) (bo H lo) (bo H hi) h;refine jT (u:=u) (w':=w) ?_ (hk _ _ ⟨m',oZf⟩)
  simp_all[execOp]
 .rename_i cargs ctys hop;split at h
  case h_2=>simp at h
  rename_i x t hd hargs htys;split at h
  case h_2=>simp at h
  rename_i ti hti;split at h
  case h_2=>simp at h
  rename_i e es hk1;split at h
  case h_2=>simp at h
  rename_i te hte;obtain⟨u,w',e1,m',e2⟩:=acC (E:=E) (ty:=o.type) H (hT t ti hti) hk1 (hT e te hte) (bo H x) h;refine jT (u:=u) (w':=w') ?_ (hk _ _ ⟨m',oZf⟩);have ha:cargs=#[x]:=oZi;have hty:ctys=#[t]:=by rw[<-htys]
  simp_all[execOp,resolve,invoke,builtin]
 .rename_i cargs ctys hop;split at h
  case h_2=>simp at h
  rename_i d s x t tx hd hargs htys;split at h
  case h_2=>simp at h
  rename_i ti tix hti htix;split at h
  case h_2=>simp at h
  rename_i e es hk1;split at h
  case h_2=>simp at h
  rename_i te hte;obtain⟨u,w',e1,m',e2⟩:=H8 (ty:=o.type) hT H (hT t ti hti) (hT tx tix htix) hk1 (hT e te hte) (bo H s) (bo H x) h;refine jT (u:=u) (w':=w') ?_ (hk _ _ ⟨m',oZf⟩);have ha:cargs=#[s,x]:=oZi;have hty:ctys=#[t,tx]:=by rw[<-htys]
  simp_all[execOp,resolve,invoke,builtin]
 .rename_i cargs ctys hop;split at h
  case h_2=>simp at h
  rename_i s x t tx hargs htys;split at h
  case h_2=>simp at h
  rename_i ti tix hti htix;split at h
  case h_2=>simp at h
  rename_i e es e' es' hk1 hk2;split at h
  case isFalse=>simp at h
  rename_i he;obtain⟨rfl,rfl⟩:=he;obtain⟨u,w',e1,m',e2⟩:=aeb (ty:=o.type) hT H (hT t ti hti) (hT tx tix htix) hk1 hk2 (bo H s) (bo H x) h;refine jT (u:=u) (w':=w') ?_ (hk _ _ ⟨m',e2⟩);have ha:cargs=#[s,x]:=oZi;have hty:ctys=#[t,tx]:=by rw[<-htys]
  simp_all[execOp,resolve,invoke,builtin]
 .rename_i cargs ctys hop;split at h
  case h_2=>simp at h
  rename_i x t hargs htys;split at h
  case h_2=>simp at h
  rename_i ti hti;split at h
  case h_2=>simp at h
  rename_i e es hk1;split at h
  case h_2=>simp at h
  rename_i n hroom;simp only[cc]at h;subst h;obtain⟨ad,len,hv⟩:=UD H (bo H x) hroom;obtain⟨dsc,hu,_,hkd⟩:=(hT t ti hti).und;rw[hk1]at hkd;obtain⟨rfl,_⟩:=hkd;refine jT (u:=.int .i64 (n:Nat)) (w':=w) ?_ (hk _ _ ⟨m,H.put o.dst (k:=1) rfl⟩);have ha:cargs=#[x]:=oZi;have hty:ctys=#[t]:=by rw[<-htys]
  subst ha;subst hty;simp[execOp,hop,resolve,invoke,builtin,Builtin.cap_,hv,run_underlying hu,goInt]
 .simp at h
theorem ab9{E:Env}(hT:TOk P E)(hG:GOk P E)(H:Inv X st a w){o:Oper}{st':St}(h:exe E o st=some st'){K:Act->World->Prop}{Q:Exit->Act->World->Prop}(hk:∀a' w',Inv X st' a' w'->K a' w'):o.wp P a w K Q:=by
 grind[exe,aeS,aeU,aef]
theorem KK{E:Env}(hT:TOk P E)(hG:GOk P E)(H:Inv X st a w){ops:Array Oper}{i:Nat}{o:Oper}(ho:ops[i]?=some o){st':St}(h:fF E ops o st=some st'){K:Act->World->Prop}{Q:Exit->Act->World->Prop}(hk:∀a' w',Inv X st' a' w'->K a' w'):wpOp P ops Q i K a w:=by
 unfold wpOp;rw[ho];simp only;unfold fF at h;split at h
 .rename_i hg;have:Region.wanted o (yielded ops a.tmps)=true:=by simp[Region.wanted,hg]
  rw[if_pos this]
  grind[ab9]
 .rename_i j want hg;split at h
  case h_2=>simp at h
  rename_i t ht;obtain⟨m,H⟩:=H;have hy:∀c,st.tmps[t]?=some c->∃u,a.tmps[t]?=some u/\aF X m st w c u:=by
   intro c hc;obtain⟨u,d,h1,h2⟩:=H.tmp t c hc;exact⟨u,h1,d,h2⟩
  split at h
  .rename_i b hb;obtain⟨u,h1,h2⟩:=hy _ hb;obtain rfl:=h2.of_val;have hyl:yielded ops a.tmps j=some b:=by simp[yielded,ht,h1]
   split at h
   .rename_i hbw;have:Region.wanted o (yielded ops a.tmps)=true:=by simp_all[Region.wanted]
    rw[if_pos this];exact .inl (ab9 hT hG ⟨m,H⟩ h hk)
   .rename_i hbw;simp only[cc]at h;subst h;have:¬Region.wanted o (yielded ops a.tmps)=true:=by simp_all[Region.wanted]
    rw[if_neg this];exact hk _ _ ⟨m,H.put o.dst (k:=1) (u:=undef) rfl⟩
  .rename_i vs hb;obtain⟨u,h1,h2⟩:=hy _ hb;obtain rfl:=h2.of_val;have hyl:yielded ops a.tmps j=none:=by simp[yielded,ht,h1]
   simp only[cc]at h;subst h;have:¬Region.wanted o (yielded ops a.tmps)=true:=by simp_all[Region.wanted]
   rw[if_neg this];exact hk _ _ ⟨m,H.put o.dst (k:=1) (u:=undef) rfl⟩
  .simp at h
def aed{E:Env}(hT:TOk P E)(hG:GOk P E){ops:Array Oper}{Q:Exit->Act->World->Prop}:∀(l:List Oper) (k:Nat) {st st':St} {a:Act} {w:World},Inv X st a w->(∀j,l[j]?=ops[k+j]?)->uU E ops l st=some st' ->
  (∀a' w',Inv X st' a' w'->Q .normal a' w')->wpOps P ops Q (List.range' k l.length) a w:=by
 intro l
 induction l with
 | nil=>
  intro k st st' a w H _ h hq;simp only[uU,cc]at h;subst h;exact hq _ _ H
 | cons o l ih=>
  intro k st st' a w H hl h hq;simp only[uU]at h;split at h
  .rename_i st1 h1;simp only[cn,xM];rw[wpOps_cons];refine KK hT hG H (by have:=hl 0;simp_all) h1 ?_;intro a' w' H';exact ih (k+1) H' (fun j=>by have:=hl (j+1);grind) h hq
  .simp at h
end
end Go.Abs
