/- A library of readings of Go values with their ownership,and of walks on them. No statement of the program. -/
import Derived.Test.YteldkhmcgloafaaAbsE
set_option linter.unusedSimpArgs false
set_option linter.unusedVariables false
namespace Go.Abs
def bN (V:List (List Value)):List (List C):=V.map (·.map .val)
def pick {α:Type} (idx:List Nat) (L:List (List α)):List (List α):=idx.map fun k=>(L[k]?).getD []
structure RowsOf (w:World) (S:Nat->Prop) (m:Path->Value) (rows:List (List C)) (V:List (List Value)) (D:Nat):Prop where
 len:V.length=rows.length
 cell:∀ (i j:Nat) row c,rows[i]?=some row->row[j]?=some c->∃ vr v,V[i]?=some vr/\vr[j]?=some v/\rel w S L0 m true D [(i,j)] c v
 wid:∀ (i:Nat) row vr,rows[i]?=some row->V[i]?=some vr->vr.length=row.length
theorem zp (V:List (List Value)):∀ row∈bN V,∀ c∈row,NoOwn c:=by
 intro row hr c hc;obtain ⟨vr,_,rfl⟩:=List.mem_map.1 hr;obtain ⟨v,_,rfl⟩:=List.mem_map.1 hc;exact NoOwn.val v
theorem rawOf {w:World} {S S':Nat->Prop} {m:Path->Value} {nl:Option Bool} {es:Nat} {cap:Option Nat} {rows:List (List C)} {u:Value} {d:Nat} (h:rel w S L0 m true d [] (.sl true nl es cap rows) u) :
  ∃ V D,RowsOf w S m rows V D/\(∀ vr∈V,vr.length=es)/\rel w S' L0 m true 2 [] (.sl true nl es cap (bN V)) u:=by
 cases d with
 | zero=>exact h.elim
 | succ d=>
 obtain ⟨a,k,h1,h2,h3,h4,hz,h5,h6,h7⟩:=h;rcases h7 with hk|⟨hb,_⟩|⟨b,off,arr,elem,frz,g1,g2,g3,g4,g5⟩
 ·have hr:rows=[]:=List.length_eq_zero_iff.1 (by omega);subst hr;exact ⟨[],0,⟨rfl,by simp,by simp⟩,by simp,⟨a,k,h1,h2,h3,h4,hz,by simp [bN],h6,.inl hk⟩⟩
 ·simp at hb
 ·have hlen:∀ i (hi:i < rows.length),rows[i].length=es:=fun i hi=>h5 _ (List.getElem_mem hi);refine ⟨rows.mapIdx fun i row=>row.mapIdx fun j _=>(arr[off+i * es+j]?).getD undef,d,⟨by simp,?_,?_⟩,?_,?_⟩
  ·intro i j row c hi hj;obtain ⟨u',e1,e2⟩:=g5 i j row c hi hj;refine ⟨_,u',by rw [List.getElem?_mapIdx,hi]; rfl,by rw [List.getElem?_mapIdx,hj,e1]; rfl,?_⟩;simpa using e2
  ·intro i row vr hi hv;rw [List.getElem?_mapIdx,hi] at hv;simp only [Option.map_some,Option.some.injEq] at hv;subst hv; simp
  ·intro vr hv;obtain ⟨i,hi⟩:=List.mem_iff_getElem?.1 hv;rw [List.getElem?_mapIdx] at hi;cases hr:rows[i]? with
   | none=>rw [hr] at hi; simp at hi
   | some row=>
    rw [hr] at hi;simp only [Option.map_some,Option.some.injEq] at hi;subst hi;simp only [List.length_mapIdx];exact h5 _ (List.mem_of_getElem? hr)
  ·refine ⟨a,k,by simpa [bN] using h1,by simpa [bN] using h2,h3,h4,hz,?_,h6,.inr (.inr ⟨b,off,arr,elem,frz,g1,g2,by simp,g4,?_⟩)⟩
   ·intro row hrow;obtain ⟨vr,hv,rfl⟩:=List.mem_map.1 hrow;obtain ⟨i,hi⟩:=List.mem_iff_getElem?.1 hv;rw [List.getElem?_mapIdx] at hi;cases hr:rows[i]? with
    | none=>rw [hr] at hi; simp at hi
    | some row=>
     rw [hr] at hi;simp only [Option.map_some,Option.some.injEq] at hi;subst hi;simp only [List.length_map,List.length_mapIdx];exact h5 _ (List.mem_of_getElem? hr)
   ·intro i j row c' hi hj;simp only [bN,List.getElem?_map,List.getElem?_mapIdx] at hi;cases hr:rows[i]? with
    | none=>rw [hr] at hi; simp at hi
    | some row0=>
     rw [hr] at hi;simp only [Option.map_some,Option.some.injEq] at hi;subst hi;simp only [List.getElem?_map,List.getElem?_mapIdx] at hj;cases hc:row0[j]? with
     | none=>rw [hc] at hj; simp at hj
     | some c0=>
      rw [hc] at hj;simp only [Option.map_some,Option.some.injEq] at hj;subst hj;obtain ⟨u',e1,_⟩:=g5 i j row0 c0 hr hc;exact ⟨u',e1,by rw [e1]; rfl⟩
def oneR (c:C):Bool:=match c with
 | .val v=>v.oneCell'
 | .sl ..=>true
 | _=>false
theorem BW {w:World} {S:Nat->Prop} {L:C->Value->Prop} {m:Path->Value} {o:Bool} {d:Nat} {p:Path} {c:C} {u:Value} (h:rel w S L m o d p c u) (hc:oneR c=true):u.oneCell'=true:=by
 cases d with
 | zero=>exact h.elim
 | succ d=>
  cases c<;>simp only [oneR] at hc
  case val v=>have:u=v:=h; rw [this]; exact hc
  case sl=>obtain ⟨a,k,h1,_⟩:=h; rw [h1]; rfl
  all_goals cases hc
theorem RowsOf.one {w:World} {S:Nat->Prop} {m:Path->Value} {rows:List (List C)} {V:List (List Value)} {D:Nat} (h:RowsOf w S m rows V D) (hr:∀ row∈rows,∀ c∈row,oneR c=true):∀ vr∈V,∀ v∈vr,v.oneCell'=true:=by
 intro vr hvr v hv;obtain ⟨i,hi⟩:=List.mem_iff_getElem?.1 hvr;obtain ⟨j,hj⟩:=List.mem_iff_getElem?.1 hv;have hil:i < rows.length:=by rw [<-h.len]; exact (List.getElem?_eq_some_iff.1 hi).1
 have hrow:rows[i]?=some rows[i]:=List.getElem?_eq_getElem hil;have hjl:j < rows[i].length:=by rw [<-h.wid i _ _ hrow hi]; exact (List.getElem?_eq_some_iff.1 hj).1
 have hc:rows[i][j]?=some rows[i][j]:=List.getElem?_eq_getElem hjl;obtain ⟨vr',v',e1,e2,e3⟩:=h.cell i j _ _ hrow hc;rw [hi] at e1; cases e1;rw [hj] at e2; cases e2;exact BW e3 (hr _ (List.getElem_mem _) _ (List.getElem_mem _))
def pickM (idx:List Nat) (m0:Value) (m:Path->Value):Path->Value
 | []=>m0
 | (i,j)::q=>m ((idx.getD i 0,j)::q)
theorem yy {es:Nat} {nl nl':Option Bool} {cap cap':Option Nat} {idx:List Nat} {R:List (List C)} {i j:Nat} {q:Path} (h:OwnAt (.sl true nl es cap (pick idx R)) ((i,j)::q)) :
  i < idx.length/\OwnAt (.sl true nl' es cap' R) ((idx.getD i 0,j)::q):=by
 simp only [OwnAt,C.at,C.kid,pick,List.getElem?_map] at h;cases hi:idx[i]? with
 | none=>simp [hi] at h
 | some k=>
  have hlt:=(List.getElem?_eq_some_iff.1 hi).1;refine ⟨hlt,?_⟩;have hk:idx.getD i 0=k:=by simp [List.getD_eq_getElem?_getD,hi]
  simp only [hi,Option.map_some,Option.bind_some] at h;simp only [OwnAt,C.at,C.kid,hk];cases hr:R[k]? with
  | none=>simp [hr] at h
  | some row=>simpa [hr] using h
theorem wW {own:List Bool} {c:C} {cs:List C} (h0:own.getD 0 false=true) (h1:∀ n,0 < n->own.getD n false=false) (n:Nat):R0 own (c::cs) n=if n=0 then c else .dead:=by
 rw [R0_at];cases n with
 | zero=>rw [if_pos h0,if_pos rfl]; rfl
 | succ n=>rw [h1 (n+1) (by omega)]; simp
theorem rel_lt {w:World} {S:Nat->Prop} {m:Path->Value} {d:Nat} {c:C} {u:Value} {q:Path} {b:Nat} (hr:rel w S L0 m true d [] c u) (ho:OwnAt c q) (hb:blk (m q)=some b):b < w.heap.size:=by
 unfold OwnAt at ho;cases hc:c.at q with
 | none=>simp [hc] at ho
 | some c1=>
  obtain ⟨u',d',hr'⟩:=rel_at q hr hc;simp only [hc,Option.map_some,Option.some.injEq] at ho;cases c1 with
  | sl own nl es cap rows=>
   cases own with
   | false=>simp [C.isOwn] at ho
   | true=>
    obtain ⟨a,k,D,e1,e2,e3,e4,e5,e6,e7,e8⟩:=bM hr';rw [List.nil_append] at e2;rw [e2] at hb;rcases e8 with e8|⟨b',off,arr,elem,f1,f2,_⟩
    ·cases a<;>simp [blk,e8] at hb
    ·subst f1;simp only [blk] at hb;split at hb
     ·simp at hb
     ·simp only [Option.some.injEq] at hb;subst hb;exact (Array.getElem?_eq_some_iff.1 f2).1
  | _=>simp [C.isOwn] at ho
theorem At {α:Type} (a b:List Nat) (L:List (List α)):pick (a++b) L=pick a L++pick b L:=by simp [pick]
end Go.Abs

namespace Go.Abs
abbrev OV:={v:Value // v.oneCell'=true}
def OV.nil:OV:=⟨.slice none 0 0,rfl⟩
theorem OV.cell (v:OV):(C.val v.1).cellOk=true:=v.2
theorem OV.plain (v:OV):plainCell (.val v.1)=true:=by simp only [plainCell,OV.cell,C.isOwn,Bool.not_false,Bool.and_true]
def decV:C->Option OV
 | .val v=>if h:v.oneCell'=true then some ⟨v,h⟩ else none
 | _=>none
theorem oz (v:OV):decV (.val v.1)=some v:=by simp only [decV,dif_pos v.2]
theorem BB {c:C} {v:OV} (h:decV c=some v):c=.val v.1:=by
 cases c<;>simp only [decV] at h<;>try cases h
 split at h
 ·cases h; rfl
 ·cases h
theorem jR {c:C} {v:OV} (h:decV c=some v):Le c (.val v.1):=Le.eq (BB h)
attribute [go_sem] oz
theorem OV.mt (v:OV):Value.oneCell'.match_1 (fun _=>Bool) v.1 (fun _=>false) (fun _=>false) (fun _=>true)=true:=v.2
attribute [go_sem] OV.mt
theorem Le.dead (c:C):Le c .dead:=by
 intro w S m m' p p' d u h;cases d with
 | zero=>exact h.elim
 | succ d=>trivial
end Go.Abs

namespace Go.Abs
def ConV (P:Program) (f:FuncId) (own:List Bool) (cs:List C) (r:C):Prop:=
 ∀ (w:World) (S:Nat->Prop) (m:Nat->Path->Value) (us:List Value),us.length=cs.length ->
  (∀ (i:Nat) (c:C),cs[i]?=some c->∃ u d,us[i]?=some u/\rel w (fun b=>(own.getD i false=true->S b)/\¬ Owned (R0 own cs) m b) L0 (m i) (own.getD i false) d [] c u)->Inj (R0 own cs) m ->
  Does P f us w fun u w'=>∃ mr d,rel w' (fun b=>((S b∨Owned (R0 own cs) m b)∨w.heap.size<=b)/\¬ Own1 r mr b) L0 mr true d [] r u ∧
   (∀ q q' b,OwnAt r q->OwnAt r q'->blk (mr q)=some b->blk (mr q')=some b->q=q') ∧
   (∀ b,Own1 r mr b->w.heap.size<=b∨Owned (R0 own cs) m b)/\FrK w (Owned (R0 own cs) m) w'
theorem lift1V {P:Program} {f:FuncId} {own:List Bool} {es:Nat} {R:List (List C)} {cs:List C} {idx:List Nat} (h0:own.getD 0 false=true) (h1:∀ n,0 < n->own.getD n false=false) (hn:idx.Nodup) (hk:∀ k∈idx,k < R.length) (hone:∀ row∈R,∀ c∈row,oneR c=true)
  (hraw:∀ V:List (List Value),V.length=R.length->(∀ vr∈V,vr.length=es)->(∀ vr∈V,∀ v∈vr,v.oneCell'=true)->(∀ (i j:Nat) row vr x v,R[i]?=some row->V[i]?=some vr->row[j]?=some (.val x)->vr[j]?=some v->v=x)->Con P f own true (.sl true none es none (bN V)::cs) (.sl true none es none (bN (pick idx V)))) :
  ConV P f own (.sl true none es none R::cs) (.sl true none es none (pick idx R)):=by
 intro w S m us hl hr hinj;obtain ⟨u0,d0,hu0,hr0⟩:=hr 0 _ rfl;rw [h0] at hr0;have hR:=wW (c:=C.sl true none es none R) (cs:=cs) h0 h1;obtain ⟨V,D,hV,hw,hrel⟩:=rawOf (S':=fun b=>(¬ Owned (R0 own (.sl true none es none R::cs)) m b)/\¬ Owned (R0 own (.sl true none es none R::cs)) m b) hr0;have hR':=wW (c:=C.sl true none es none (bN V)) (cs:=cs) h0 h1;have top:OwnAt (R0 own (.sl true none es none R::cs) 0) []:=by rw [hR]; rfl
 have rawOwn:∀ n p,OwnAt (R0 own (.sl true none es none (bN V)::cs) n) p->n=0/\p=[]:=by
  intro n p h;rw [hR'] at h;split at h
  ·rename_i e; exact ⟨e,o7 (zp V) h⟩
  ·exact (aq h).elim
 have rawSub:∀ b,Owned (R0 own (.sl true none es none (bN V)::cs)) m b->blk (m 0 [])=some b:=by
  rintro b ⟨n,p,h,hb⟩;obtain ⟨rfl,rfl⟩:=rawOwn n p h;exact hb
 have rawIn:∀ b,Owned (R0 own (.sl true none es none (bN V)::cs)) m b->Owned (R0 own (.sl true none es none R::cs)) m b:=fun b h=>⟨0,[],top,rawSub b h⟩;have hval:∀ (i j:Nat) row vr x v,R[i]?=some row->V[i]?=some vr->row[j]?=some (.val x)->vr[j]?=some v->v=x:=by
  intro i j row vr x v e1 e2 e3 e4;obtain ⟨vr',v',f1,f2,f3⟩:=hV.cell i j row _ e1 e3;rw [e2] at f1; cases f1;rw [e4] at f2; cases f2;cases D with
  | zero=>exact f3.elim
  | succ D=>exact f3
 have hD:=hraw V hV.len hw (hV.one hone) hval w (fun b=>¬ Owned (R0 own (.sl true none es none R::cs)) m b) m us (by simpa using hl) (by
  intro i c hi;cases i with
  | zero=>
   simp only [List.getElem?_cons_zero,Option.some.injEq] at hi;subst hi;refine ⟨u0,2,hu0,?_⟩;rw [h0];exact af (fun b _ hb=>⟨⟨hb.1,fun q=>hb.2 (rawIn b q)⟩,rfl⟩) 2 (fun _ _ _ h=>h) (fun _ _ _ _ _ _=>rfl) (fun _ _ _=>rfl) hrel
  | succ i=>
   obtain ⟨u,d,e1,e2⟩:=hr (i+1) c (by simpa using hi);refine ⟨u,d,e1,?_⟩;rw [h1 (i+1) (by omega)] at e2 ⊢;exact af (fun b _ hb=>⟨⟨hb.2,fun q=>hb.2 (rawIn b q)⟩,rfl⟩) d (fun _ _ _ h=>h) (fun h=>by simp at h) (fun h=>by simp at h) e2) (by
  intro n p n' p' b g1 g2 _ _;obtain ⟨rfl,rfl⟩:=rawOwn n p g1;obtain ⟨rfl,rfl⟩:=rawOwn n' p' g2;exact ⟨rfl,rfl⟩)
 refine hD.mono ?_;rintro u w' ⟨mr,d,q1,q2,q3,q4⟩;have topOwn:OwnAt (.sl true none es none (bN (pick idx V))) []:=rfl;have inner:∀ i j q b,OwnAt (.sl true none es none (pick idx R)) ((i,j)::q)->blk (m 0 ((idx.getD i 0,j)::q))=some b->i < idx.length/\OwnAt (R0 own (.sl true none es none R::cs) 0) ((idx.getD i 0,j)::q)/\b < w.heap.size/\blk (m 0 [])≠some b:=by
  intro i j q b h hb;have ho:=yy (nl':=none) (cap':=none) h;have ho':OwnAt (R0 own (.sl true none es none R::cs) 0) ((idx.getD i 0,j)::q):=by rw [hR]; exact ho.2
  refine ⟨ho.1,ho',rel_lt hr0 ho.2 hb,fun e=>?_⟩;have:=(hinj 0 _ 0 _ b top ho' e hb).2;cases this
 have tops:∀ b,blk (mr [])=some b->w.heap.size<=b∨blk (m 0 [])=some b:=by
  intro b hb;rcases q3 b ⟨[],topOwn,hb⟩ with h|h
  ·exact .inl h
  ·exact .inr (rawSub b h)
 have own1:∀ b,Own1 (.sl true none es none (pick idx R)) (pickM idx (mr []) (m 0)) b->w.heap.size<=b∨Owned (R0 own (.sl true none es none R::cs)) m b:=by
  rintro b ⟨q,ho,hb⟩
  match q,ho,hb with
  | [],_,hb=>
   rcases tops b hb with h|h
   ·exact .inl h
   ·exact .inr ⟨0,[],top,h⟩
  | (i,j)::q,ho,hb=>exact .inr ⟨0,_,(inner i j q b ho hb).2.1,hb⟩
 have keep:∀ b,b < w.heap.size->blk (m 0 [])≠some b->w'.heap[b]?=w.heap[b]?:=fun b hb hne=>q4.block b hb (fun h=>hne (rawSub b h));refine ⟨pickM idx (mr []) (m 0),D+d+1,?_,?_,own1,⟨q4.os,q4.tape,q4.output,q4.drawn,q4.size,fun b hb hno=>keep b hb (fun e=>hno ⟨0,[],top,e⟩)⟩⟩
 ·cases d with
  | zero=>exact q1.elim
  | succ d=>
  obtain ⟨a,k,e1,e2,e3,e4,ez,e5,e6,e7⟩:=q1;have hlen:(bN (pick idx V)).length=(pick idx R).length:=by simp [bN,pick]
  have wid:∀ row∈pick idx R,row.length=es:=by
   intro row hrow;obtain ⟨k0,hk0,rfl⟩:=List.mem_map.1 hrow;have hlt:=hk k0 hk0;have hv:V[k0]?=some (V[k0]'(by rw [hV.len]; exact hlt)):=List.getElem?_eq_getElem _;have hrw:R[k0]?=some R[k0]:=List.getElem?_eq_getElem hlt;rw [hrw,Option.getD_some,<-hV.wid k0 _ _ hrw hv];exact hw _ (List.getElem_mem _)
  refine ⟨a,k,by rw [<-hlen]; exact e1,by rw [<-hlen]; exact e2,e3,e4,ez,wid,fun h=>e6 h,?_⟩;rcases e7 with e7|⟨hb,_⟩|⟨b,off,arr,elem,frz,g1,g2,g3,g4,g5⟩
  ·exact .inl e7
  ·simp at hb
  ·refine .inr (.inr ⟨b,off,arr,elem,frz,g1,g2,by simp,g4,?_⟩);intro i j row c hi hj;simp only [pick,List.getElem?_map] at hi;cases hx:idx[i]? with
   | none=>rw [hx] at hi; simp at hi
   | some k0=>
    rw [hx] at hi;simp only [Option.map_some,Option.some.injEq] at hi;have hk0:=hk k0 (List.mem_of_getElem? hx);have hrw:R[k0]?=some R[k0]:=List.getElem?_eq_getElem hk0;rw [hrw,Option.getD_some] at hi;subst hi;obtain ⟨vr,v,v1,v2,v3⟩:=hV.cell k0 j _ c hrw hj;obtain ⟨u',f1,f2⟩:=g5 i j (vr.map .val) (.val v) (by simp [bN,pick,hx,v1]) (by simp [v2]);have hu':u'=v:=by
     cases d with
     | zero=>exact f2.elim
     | succ d=>exact f2
    subst hu';refine ⟨u',f1,aA D (D+(d+1)) (by omega) (af (fun b hb hs=>⟨⟨.inl (.inl (hs.1 rfl)),fun q=>(own1 b q).elim (fun h=>by omega) hs.2⟩,keep b hb (fun e=>hs.2 ⟨0,[],top,e⟩)⟩) D (fun _ _ _ h=>h) (fun _ q b ho hb hlt=>keep b hlt (fun e=>?_)) (fun _ q ho=>?_) v3)⟩
    ·have ho':OwnAt (R0 own (.sl true none es none R::cs) 0) ((k0,j)::q):=by
      rw [hR];simp only [if_true,OwnAt,C.at,C.kid,hrw,Option.bind_some,hj];exact ho
     have:=(hinj 0 _ 0 _ b top ho' e hb).2;cases this
    ·simp [pickM,List.getD_eq_getElem?_getD,hx]
 ·intro q q' b g1 g2 b1 b2
  match q,q',g1,g2,b1,b2 with
  | [],[],_,_,_,_=>rfl
  | [],(i,j)::q',_,g2,b1,b2=>
   exfalso;obtain ⟨_,_,x1,x2⟩:=inner i j q' b g2 b2;rcases tops b b1 with h|h
   ·omega
   ·exact x2 h
  | (i,j)::q,[],g1,_,b1,b2=>
   exfalso;obtain ⟨_,_,x1,x2⟩:=inner i j q b g1 b1;rcases tops b b2 with h|h
   ·omega
   ·exact x2 h
  | (i,j)::q,(i',j')::q',g1,g2,b1,b2=>
   obtain ⟨y1,y2,_,_⟩:=inner i j q b g1 b1;obtain ⟨z1,z2,_,_⟩:=inner i' j' q' b g2 b2;have e:=(hinj 0 _ 0 _ b y2 z2 b1 b2).2;simp only [List.cons.injEq,Prod.mk.injEq] at e;obtain ⟨⟨e1,rfl⟩,rfl⟩:=e;have e1':idx[i]=idx[i']:=by simpa [List.getD_eq_getElem?_getD,y1,z1] using e1
   have:=(List.getElem_inj hn).1 e1';subst this; rfl
section
variable {X:Ctx} {m:Nat->Path->Value} {st:St} {a:Act} {w:World} {P:Program}
theorem vZ {E:Env} (hG:GOk P E) (H:InvM X m st a w) {o:Oper} {c:Call} (hop:o.op=.call c) {d f:Nat} (hdst:o.dst=some d) {args:List C} (hc:callTo st c=some (f,args)) {fo:List Bool} (hlen:args.length=fo.length) (hdH:d < H0)
  {st1:St} {rest:List C} (hprep:dS ((bY fo args).flatMap leaves).length H0 ((bY fo args).flatMap leaves) (.tup (bJ fo args)) st=some (st1,.tup rest))
  {rs cs:List C} (hint:inter fo (dA st1.roots H0 (bY fo args)) rs=some cs) {r:C} (hcon:ConV P f fo cs r)
  (hread:∀ (m1:Nat->Path->Value) (ur:List Value),InvM X m1 st1 a w->(∀ k q,k < H0->m1 k q=m k q)->(∀ (j:Nat) (c:C),(rest.map (poi fun n' _=>decide (H0<=n')))[j]?=some c->∃ u,ur[j]?=some u/\RelT X m1 st1 w c u) ->
   rs.length=rest.length/\∀ (j:Nat) (c:C),rs[j]?=some c->∃ u,ur[j]?=some u/\RelA w (fun b=>X.S st1.roots m1 b∨OwnedN (fun n=>n < H0) st1.roots m1 b) c u)
  {Qx:Exit->Act->World->Prop} :
  o.wp P a w (fun a' w'=>∃ m',InvM X m' { tmps:=((st1.fresh d).tmps.map (poi fun n' _=>decide (H0<=n'))).set d (viewD 3 d [] r),roots:=if ownD 3 r then upd (clr ((bY fo args).flatMap leaves).length (st1.fresh d).roots) d r else clr ((bY fo args).flatMap leaves).length (st1.fresh d).roots } a' w' ∧
   KeepV (some d) m st w m' { tmps:=((st1.fresh d).tmps.map (poi fun n' _=>decide (H0<=n'))).set d (viewD 3 d [] r),roots:=if ownD 3 r then upd (clr ((bY fo args).flatMap leaves).length (st1.fresh d).roots) d r else clr ((bY fo args).flatMap leaves).length (st1.fresh d).roots } w') Qx:=by
 obtain ⟨us,hl,hrel,hrun⟩:=ir (P:=P) (ty:=o.type) H hc;obtain ⟨uo,ur,p1,p2,p3,p4,p5,p6⟩:=uD hlen hl hrel;obtain ⟨vs,v1,v2,v3⟩:=oV p1 p3;have hkeep:RelT X m st w (.tup (bJ fo args)) (.tuple ur.toArray):=by
  have:∃ D,∀ j,j < (bJ fo args).length->∃ c u,(bJ fo args)[j]?=some c/\ur[j]?=some u/\rel w (X.S st.roots m) (Lv st.roots m) dm false D [] c u:=by
   refine mA (Q:=fun j D=>∃ c u,(bJ fo args)[j]?=some c/\ur[j]?=some u/\rel w (X.S st.roots m) (Lv st.roots m) dm false D [] c u) ?_ _ ?_
   ·rintro j d d' hd ⟨c,u,e1,e2,e3⟩; exact ⟨c,u,e1,e2,aA _ _ hd e3⟩
   ·intro j hj;have e1:(bJ fo args)[j]?=some (bJ fo args)[j]:=by simp [hj]
    obtain ⟨u,e2,D,e3⟩:=p4 j _ e1;exact ⟨D,_,u,e1,e2,e3⟩
  obtain ⟨D,hD⟩:=this;refine ⟨D+1,ur.toArray,rfl,by simp [p2],?_⟩;intro j c hj;obtain ⟨c',u,e1,e2,e3⟩:=hD j (List.getElem?_eq_some_iff.1 hj).1;rw [hj] at e1;cases e1;exact ⟨u,by simpa using e2,aT e3⟩
 obtain ⟨m1,H1,hk1,hhands,_,hm1,_⟩:=j7 _ rfl v1 (Nat.le_refl _) H v2 hkeep hprep;obtain ⟨dk,hk1⟩:=hk1;cases dk with
 | zero=>exact hk1.elim
 | succ dk=>
 obtain ⟨arr,harr,hk2,hk3⟩:=hk1;simp only [Value.tuple.injEq] at harr;subst harr;have hrest:∀ (j:Nat) (c:C),(rest.map (poi fun n' _=>decide (H0<=n')))[j]?=some c->∃ u,ur[j]?=some u/\RelT X m1 st1 w c u:=by
  intro j c hj;simp only [List.getElem?_map,Option.map_eq_some_iff] at hj;obtain ⟨c0,hj,rfl⟩:=hj;obtain ⟨u,e1,e2⟩:=hk3 j c0 hj;refine ⟨u,by simpa using e1,?_⟩;rcases ej (fun n' _=>decide (H0<=n')) c0 with h|⟨h,_⟩
  ·rw [h]; exact ⟨1,trivial⟩
  ·rw [h]; exact ⟨dk,aT e2⟩
 have hlr:ur.length=(rest.map (poi fun n' _=>decide (H0<=n'))).length:=by simp only [List.length_map]; simpa using hk2
 obtain ⟨s1,s2⟩:=hread m1 ur H1 hm1 hrest;obtain ⟨i1,i2,i3⟩:=tY hint
 let os:=bY fo args
 let nm:Nat->Path->Nat × Path:=fun i q=>loc1 (hOf H0 os (ownIx fo i)) ((os[ownIx fo i]?).getD .dead) q
 let mc:Nat->Path->Value:=fun i q=>m1 (nm i q).1 (nm i q).2
 have own_at:∀ i c,cs[i]?=some c->fo[i]?=some true->∃ c0,os[ownIx fo i]?=some c0/\c=reb1 st1.roots (hOf H0 os (ownIx fo i)) c0:=by
  intro i c hi hf;have:=i2 i c hi hf;rw [jo] at this;simp only [Option.map_eq_some_iff] at this;obtain ⟨c0,e1,e2⟩:=this;exact ⟨c0,e1,e2.symm⟩
 have R0_own:∀ i q,OwnAt (R0 fo cs i) q->fo[i]?=some true/\∃ c c0,cs[i]?=some c/\os[ownIx fo i]?=some c0/\OwnAt (reb1 st1.roots (hOf H0 os (ownIx fo i)) c0) q/\nm i q=loc1 (hOf H0 os (ownIx fo i)) c0 q:=by
  intro i q ho;unfold R0 at ho;cases hf:fo.getD i false with
  | false=>rw [hf] at ho; simp only [Bool.false_eq_true,if_false] at ho; exact (aq ho).elim
  | true=>
   rw [hf] at ho;simp only [if_true] at ho;have hf':fo[i]?=some true:=by
    rw [List.getD_eq_getElem?_getD] at hf;cases h:fo[i]? with
    | none=>simp [h] at hf
    | some b=>simp only [h,Option.getD_some] at hf; rw [hf]
   cases hci:cs[i]? with
   | none=>rw [hci] at ho; exact (aq ho).elim
   | some c=>
    rw [hci] at ho;simp only [Option.getD_some] at ho;obtain ⟨c0,e1,e2⟩:=own_at i c hci hf';rw [e2] at ho;exact ⟨hf',c,c0,rfl,e1,ho,by simp only [nm,e1,Option.getD_some]⟩
 have R0_names:∀ i q,OwnAt (R0 fo cs i) q->OwnAt (st1.roots (nm i q).1) (nm i q).2/\H0<=(nm i q).1/\(nm i q).1 < H0+(os.flatMap leaves).length:=by
  intro i q ho;obtain ⟨_,c,c0,e1,e2,e3,e4⟩:=R0_own i q ho;obtain ⟨g1,g2,g3⟩:=iI e3;have:=hOf_le H0 e2;have hge:H0<=hOf H0 os (ownIx fo i):=by have:=kF H0 os 0 (ownIx fo i); simp only [Nat.add_zero] at this; omega
  rw [e4];exact ⟨g1,by omega,by omega⟩
 have hinj:Inj (R0 fo cs) mc:=by
  intro n p n' p' b ho ho' hb hb';obtain ⟨f1,c,c0,e1,e2,e3,e4⟩:=R0_own n p ho;obtain ⟨f2,c',c0',e1',e2',e3',e4'⟩:=R0_own n' p' ho';have hsame:=H1.inj _ _ _ _ b (R0_names n p ho).1 (R0_names n' p' ho').1 hb hb';have hsame:nm n p=nm n' p':=Prod.ext hsame.1 hsame.2;rw [e4,e4'] at hsame;obtain ⟨_,r1,r2⟩:=iI e3;obtain ⟨_,r3,r4⟩:=iI e3';have l1:n < fo.length:=(List.getElem?_eq_some_iff.1 f1).1;have l2:n' < fo.length:=(List.getElem?_eq_some_iff.1 f2).1;have m1':ownIx fo n < os.length:=(List.getElem?_eq_some_iff.1 e2).1;have m2':ownIx fo n' < os.length:=(List.getElem?_eq_some_iff.1 e2').1;have hn:n=n':=by
   rcases Nat.lt_trichotomy n n' with hlt|heq|hgt
   ·have:=hOf_lt (h:=H0) e2 (qc f1 hlt l2) m2';rw [hsame] at r2;omega
   ·exact heq
   ·have:=hOf_lt (h:=H0) e2' (qc f2 hgt l1) m1';rw [<-hsame] at r4;omega
  subst hn;rw [e2] at e2';cases e2';exact ⟨rfl,qh e3 e3' hsame⟩
 have hOwnedK:∀ b,Owned (R0 fo cs) mc b->∃ h∈List.range' H0 (os.flatMap leaves).length,∃ p,OwnAt (st1.roots h) p/\blk (m1 h p)=some b:=by
  rintro b ⟨n,p,ho,hb⟩;obtain ⟨g1,g2,g3⟩:=R0_names n p ho;exact ⟨_,List.mem_range'.2 ⟨(nm n p).1 - H0,by omega,by omega⟩,_,g1,hb⟩
 have hOwned1:∀ b,Owned (R0 fo cs) mc b->Owned st1.roots m1 b:=fun b hb=>let ⟨h,_,p,g1,g2⟩:=hOwnedK b hb; ⟨h,p,g1,g2⟩
 have hsharp:∀ b,(X.S st1.roots m1 b∨OwnedN (fun n=>n < H0) st1.roots m1 b)->¬ Owned (R0 fo cs) mc b:=by
  rintro b (hb|⟨n,p,hn,ho,hb⟩) hO
  ·exact hb.2 (hOwned1 b hO)
  ·obtain ⟨h,hh,p',g1,g2⟩:=hOwnedK b hO;have:=H1.inj _ _ _ _ b ho g1 hb g2;simp only [List.mem_range'] at hh;omega
 have hdoes:=hcon w (X.S st1.roots m1) mc us (by omega) (by
  intro i c hi;have hil:i < fo.length:=by have:=(List.getElem?_eq_some_iff.1 hi).1; omega
  have hui:∃ u,us[i]?=some u:=⟨us[i]'(by omega),by simp⟩;obtain ⟨u,hu⟩:=hui;cases hf:fo[i]? with
  | none=>simp at hf; omega
  | some b=>
   cases b with
   | true=>
    obtain ⟨c0,e1,e2⟩:=own_at i c hi hf;have huo:=p5 i u hf hu;have hlv:=v3 _ _ _ e1 huo;obtain ⟨dd,hd⟩:=su (w:=w) (R:=fun n=>st1.roots (H0+n)) (S:=X.S st1.roots m1) (m:=fun n=>m1 (H0+n)) hlv (fun n v hn=>hhands n v hn);have hh:hOf H0 os (ownIx fo i)=H0+hOf 0 os (ownIx fo i):=by have:=kF H0 os 0 (ownIx fo i); simpa using this
    have e3:reb1 (fun n=>st1.roots (H0+n)) (hOf 0 os (ownIx fo i)) c0=c:=by
     rw [e2,hh];cases c0<;>simp [reb1,Nat.add_assoc]
    rw [e3] at hd;refine ⟨u,dd,hu,?_⟩;rw [List.getD_eq_getElem?_getD,hf,Option.getD_some];refine af (fun b _ hb=>⟨⟨fun _=>hb,fun hO=>hb.2 (hOwned1 b hO)⟩,rfl⟩) dd (fun _ _ _ h=>h) (fun _ _ _ _ _ _=>rfl) (fun _ q _=>?_) hd;have e4:nm i q=(H0+(loc1 (hOf 0 os (ownIx fo i)) c0 q).1,(loc1 (hOf 0 os (ownIx fo i)) c0 q).2):=by
     have e5:os[ownIx fo i]?=some c0:=e1;simp only [nm,e5,Option.getD_some,hh];cases c0<;>cases q<;>simp [loc1,Nat.add_assoc]
    simp only [List.nil_append,mc,e4];rfl
   | false=>
    obtain ⟨u',e1,dd,e2⟩:=s2 _ c (i3 i c hi hf);have:=p6 i u hf hu;rw [this] at e1;cases e1;refine ⟨u,dd,hu,?_⟩;rw [List.getD_eq_getElem?_getD,hf,Option.getD_some];exact af (fun b _ hb=>⟨⟨fun h=>by simp at h,hsharp b hb⟩,rfl⟩) dd (fun _ _ _ h=>h) (fun h=>by simp at h) (fun h=>by simp at h) e2) hinj
 refine kE hop hdoes hrun ?_;rintro u w' ⟨mr,d0,q1,q2,q3,q4⟩;rw [hdst];obtain ⟨h1,hd1⟩:=fQ H1 d;have hon:=ga H1 hdH;have hroots:∀ n,n≠d->(st1.fresh d).roots n=st1.roots n:=fun n hn=>mO hn;have hks:∀ h∈List.range' H0 (os.flatMap leaves).length,h≠d:=by
  intro h hh;simp only [List.mem_range'] at hh;omega
 have hcore:∀ own:Bool,(own=false->∀ q,¬ OwnAt r q)->InvM X (fun n p=>if n=d/\own=true then mr p else m1 n p)
   {tmps:=((st1.fresh d).tmps.map (poi fun n' _=>decide (H0<=n'))).set d (viewD 3 d [] r),roots:=fun n=>if n=d/\own=true then r else if n∈List.range' H0 (os.flatMap leaves).length then .dead else (st1.fresh d).roots n } (a.put (some d) u) w':=by
  intro own hno;refine jH h1 (d:=d) (ks:=List.range' H0 (os.flatMap leaves).length) (own:=own) (r:=r) (u:=u) (w':=w') (mr:=mr) (Sr:=fun b=>((X.S st1.roots m1 b∨Owned (R0 fo cs) mc b)∨w.heap.size<=b)/\¬ Own1 r mr b) (Kc:=Owned (R0 fo cs) mc) (tmps0:=(st1.fresh d).tmps.map (poi fun n' _=>decide (H0<=n')))
   (fun _=>hd1) (fun _ hin=>hks d hin rfl) hno q1 ?_ q2 q3 ?_ q4 (by simp) ?_
  ·rintro b _ ⟨e2,e3⟩;refine ⟨fun hlt=>?_,e3⟩;rcases e2 with (e2|e2)|e2
   ·exact .inl ⟨hon.S b hlt e2,fun hO=>e2.2 (hOwned1 b hO)⟩
   ·exact .inr e2
   ·omega
  ·intro b hb;obtain ⟨h,hh,p,g1,g2⟩:=hOwnedK b hb;exact ⟨h,hh,p,by rw [hroots h (hks h hh)]; exact g1,g2⟩
  ·intro t c0 ht;simp only [List.getElem?_map,Option.map_eq_some_iff] at ht;obtain ⟨c1,h0,rfl⟩:=ht;rcases ej (fun n' _=>decide (H0<=n')) c1 with h|⟨h,hm⟩
   ·exact .inl h
   ·rw [h];refine .inr ⟨h0,fun v uv dd ho hl=>?_⟩;obtain ⟨n,p,e1,e2⟩:=dU dd 3 c1 v hm ho;refine ⟨n,p,e1,?_,fun _=>by rintro rfl; exact jN e1 hl hd1⟩;simp only [decide_eq_false_iff_not] at e2;simp only [List.mem_range'];omega
 have hclr:∀ n,(if n∈List.range' H0 (os.flatMap leaves).length then C.dead else (st1.fresh d).roots n)=clr (os.flatMap leaves).length (st1.fresh d).roots n:=by
  intro n;unfold clr;have:n∈List.range' H0 (os.flatMap leaves).length↔(H0<=n/\n < H0+(os.flatMap leaves).length):=by
   simp only [List.mem_range'];constructor
   ·rintro ⟨i,h1,h2⟩; omega
   ·rintro ⟨h1,h2⟩; exact ⟨n - H0,by omega,by omega⟩
  by_cases h:n∈List.range' H0 (os.flatMap leaves).length
  ·rw [if_pos h,if_pos (this.1 h)]
  ·rw [if_neg h,if_neg (fun hh=>h (this.2 hh))]
 have hkeepV:∀ (mz:Nat->Path->Value) (sz:St),(∀ n,n≠d->∀ q,mz n q=m1 n q)->(∀ n,n < H0->n≠d->sz.roots n=st1.roots n)->KeepV (some d) m st w mz sz w':=by
  intro mz sz e1 e2 n hn hnd ho ho';have hnd':n≠d:=fun h=>hnd (by rw [h]);have em:m1 n []=m n []:=hm1 n [] hn;refine ⟨by rw [e1 n hnd',em],fun b hb=>?_⟩;rw [e2 n hn hnd'] at ho';refine q4.block b (H.lt ho hb) (fun hO=>?_);obtain ⟨h,hh,p,g1,g2⟩:=hOwnedK b hO;have:=(H1.inj _ _ _ _ b ho' g1 (by rw [em]; exact hb) g2).1;simp only [List.mem_range'] at hh;omega
 cases hod:ownD 3 r with
 | true=>
  have:=hcore true (by simp);have e:(fun n=>if n=d/\true=true then r else if n∈List.range' H0 (os.flatMap leaves).length then C.dead else (st1.fresh d).roots n)=upd (clr (os.flatMap leaves).length (st1.fresh d).roots) d r:=by
   funext n
   simp only [upd,hclr,and_true]
  rw [e] at this;refine ⟨_,this,hkeepV _ _ (fun n hn q=>by simp [hn]) (fun n hn hnd=>?_)⟩;have:¬ (H0<=n/\n < H0+(os.flatMap leaves).length):=by omega
  show upd (clr (os.flatMap leaves).length (st1.fresh d).roots) d r n=_;rw [upd_ne hnd];unfold clr;rw [if_neg this,hroots n hnd]
 | false=>
  have:=hcore false (fun _ q=>rI 3 hod);have e:(fun n=>if n=d/\false=true then r else if n∈List.range' H0 (os.flatMap leaves).length then C.dead else (st1.fresh d).roots n)=clr (os.flatMap leaves).length (st1.fresh d).roots:=by
   funext n
   simp only [hclr,Bool.false_eq_true,and_false,if_false]
  rw [e] at this;refine ⟨_,this,hkeepV _ _ (fun n hn q=>by simp [hn]) (fun n hn hnd=>?_)⟩;have:¬ (H0<=n/\n < H0+(os.flatMap leaves).length):=by omega
  show clr (os.flatMap leaves).length (st1.fresh d).roots n=_;unfold clr;rw [if_neg this,hroots n hnd]
end
end Go.Abs

namespace Go.Abs
section
variable {P:Program} {ops:Array Oper}
theorem AD {Q Q':Exit->Act->World->Prop} (hq:∀ e a w,Q e a w->Q' e a w) {o:Oper} {a:Act} {w:World} {K:Act->World->Prop} (h:o.wp P a w K Q):o.wp P a w K Q':=by
 unfold Oper.wp at *;generalize (execOp a.eval o).run P w=r at *;have hl:LetsOut Q->LetsOut Q':=fun ⟨a',w',h⟩=>⟨a',w',hq _ _ _ h⟩;cases r with
 | ok n w'=>
  cases n<;>simp only [Oper.upon] at h ⊢
  case enter f args=>
   refine Calls.mono h (fun e w'' he=>?_);cases e with
   | returned v=>exact he
   | panicked c=>exact hq _ _ _ he
   | outgrown=>exact hl he
  all_goals exact h
 | halt x w'=>
  cases x<;>simp only [Oper.upon] at h ⊢
  case panic v=>exact hq _ _ _ h
  all_goals exact h
theorem wJ {Q Q':Exit->Act->World->Prop} (hq:∀ e a w,Q e a w->Q' e a w):∀ (l:List Nat) (a:Act) (w:World),wpOps P ops Q l a w->wpOps P ops Q' l a w:=by
 intro l
 induction l with
 | nil=>intro a w h; exact hq _ _ _ h
 | cons i l ih=>
  intro a w h;rw [wpOps_cons] at h ⊢;unfold wpOp at h ⊢;split
  ·rename_i he; rw [he] at h; exact ih _ _ h
  ·rename_i o ho;rw [ho] at h;simp only at h;split
   ·rename_i hw;rw [if_pos hw] at h;rcases h with h|⟨h1,a',w',h2⟩
    ·exact .inl (AD hq (Oper.wp_mono (fun a' w' hk=>ih _ _ hk) h))
    ·exact .inr ⟨h1,a',w',hq _ _ _ h2⟩
   ·rename_i hw;rw [if_neg hw] at h;exact ih _ _ h
theorem wL {Q:Exit->Act->World->Prop} {ts:List Tmp} {n:Nat} (hk:(ops.toList.drop n).all (keepO ts)=true) {a0:Act}:∀ (l:List Nat) (a:Act) (w:World),Same ts a0 a->(∀ i∈l,n<=i)->wpOps P ops Q l a w->wpOps P ops (Kp ts a0 Q) l a w:=by
 have lR:∀ {i:Nat} {o:Oper},n<=i->ops[i]?=some o->keepO ts o=true:=fun {i o} hi ho=>by
  rw [List.all_eq_true] at hk;exact hk o (List.mem_of_getElem? (i:=i - n) (by rw [List.getElem?_drop]; simpa [show n+(i - n)=i from by omega] using ho))
 intro l
 induction l with
 | nil=>intro a w h0 _ h; exact ⟨h,.inr h0⟩
 | cons i l ih=>
  intro a w h0 hin h;have hi0:n<=i:=hin i (by simp);have hrest:∀ j∈l,n<=j:=fun j hj=>hin j (by simp [hj]);rw [wpOps_cons] at h ⊢;unfold wpOp at h ⊢;split
  ·rename_i he; rw [he] at h; exact ih _ _ h0 hrest h
  ·rename_i o ho;rw [ho] at h;simp only at h;split
   ·rename_i hw;rw [if_pos hw] at h;rcases h with h|h
    ·exact .inl (tD (lR hi0 ho) h0 (fun a' w' hk' hs=>ih _ _ hs hrest hk') h)
    ·exact .inr ⟨h.1,LetsOut.keep h.2⟩
   ·rename_i hw;rw [if_neg hw] at h;exact ih _ _ (h0.trans (oc (lR hi0 ho) a undef)) hrest h
variable {X:Ctx} {E:Env}
theorem wP (hT:TOk P E) (hG:GOk P E) {Q:Exit->Act->World->Prop} {rest:List Nat}:∀ (l:List Oper) (k:Nat) {st st':St} {a:Act} {w:World},Inv X st a w->(∀ j,j < l.length->l[j]?=ops[k+j]?)->runL E ops l st=some st' ->
  (∀ a' w',Inv X st' a' w'->wpOps P ops Q rest a' w')->wpOps P ops Q (List.range' k l.length++rest) a w:=by
 intro l
 induction l with
 | nil=>
  intro k st st' a w H _ h hq;simp only [runL,Option.some.injEq] at h;subst h;exact hq _ _ H
 | cons o l ih=>
  intro k st st' a w H hl h hq;simp only [runL] at h;split at h
  ·rename_i st1 h1;simp only [List.length_cons,List.range'_succ,List.cons_append];rw [wpOps_cons];refine pP hT hG H (by have:=hl 0 (by simp); simpa using this.symm) h1 ?_;intro a' w' H';exact ih (k+1) H' (fun j hj=>by have:=hl (j+1) (by simp; omega); rw [List.getElem?_cons_succ] at this; rw [this]; congr 1; omega) h hq
  ·simp at h
theorem yU {t:Tmp} {ts:List Tmp}:∀ {c:Code},keepC [t] c=true->keepC ts c=true->keepC (t::ts) c=true:=by
 have hO:∀ {o:Oper},keepO [t] o=true->keepO ts o=true->keepO (t::ts) o=true:=by
  intro o h1 h2;unfold keepO at *;split
  ·rename_i d hd;rw [hd] at h1 h2;simp only [Bool.not_eq_true',List.contains_eq_mem,decide_eq_false_iff_not,List.mem_cons,List.not_mem_nil,or_false] at h1 h2 ⊢;rintro (h|h)
   ·exact h1 h
   ·exact h2 h
  ·rfl
 intro c
 induction c with
 | region id ops d=>
  intro h1 h2;simp only [keepC,List.all_eq_true] at *;exact fun o ho=>hO (h1 o ho) (h2 o ho)
 | seq x y hx hy=>intro h1 h2; simp only [keepC,Bool.and_eq_true] at *; exact ⟨hx h1.1 h2.1,hy h1.2 h2.2⟩
 | cond c x y hx hy=>intro h1 h2; simp only [keepC,Bool.and_eq_true] at *; exact ⟨hx h1.1 h2.1,hy h1.2 h2.2⟩
 | block id c h=>intro h1 h2; exact h h1 h2
 | loop c h=>intro h1 h2; exact h h1 h2
 | scope c h=>intro h1 h2; exact h h1 h2
 | _=>intros; rfl
def WkP (tp:Tmp) (v:Value) (E:Env) (c:Code) (Q:Exit->St->Prop) (st:St):Prop:=∀ (P:Program),TOk P E->GOk P E->P.follows .mixedOrders=true->codeOk c=true ->
 ∀ (X:Ctx) (a:Act) (w:World),Inv X st a w->a.tmps[tp]?=some v->∀ ts:List Tmp,keepC ts c=true->c.wp P (KQ X ts a Q) a w
theorem Wk.pinned {tp:Tmp} {v:Value} {c:Code} {Q:Exit->St->Prop} {st:St} (h:Wk E c Q st):WkP tp v E c Q st:=fun P hT hG hm hc X a w H _ ts hk=>h P hT hG hm hc X a w H ts hk
theorem pin_of {m:Nat->Path->Value} {st:St} {a:Act} {w:World} (H:InvM X m st a w) {tp n len:Nat} (ht:st.tmps[tp]?=some (.pal n [] 0 len none)) (h0:0 < len) :
  ∃ b off k k',a.tmps[tp]?=some (.slice (some ⟨b,off,none⟩) len k)/\∃ nl es cap rows,st.roots n=.sl true nl es cap rows/\m n []=.slice (some ⟨b,off,none⟩) rows.length k':=by
 obtain ⟨u,d,h1,h2⟩:=H.tmp tp _ ht;cases d with
 | zero=>exact h2.elim
 | succ d=>
 obtain ⟨nl,es,cap,rows,a0,k,a',k',e1,e2,e3,e4,e5,e6,e7,e8,e9⟩:=h2;rcases e9 with e9|⟨b,off,f1,f2⟩
 ·omega
 ·subst f1 f2;refine ⟨b,off,k',k,by rw [h1,e4]; simp,nl,es,cap,rows,?_,e2⟩;simpa [C.at] using e1
theorem pin_m {m:Nat->Path->Value} {st:St} {a:Act} {w:World} (H:InvM X m st a w) {tp n len b off k:Nat} (ht:st.tmps[tp]?=some (.pal n [] 0 len none)) (h0:0 < len) (hv:a.tmps[tp]?=some (.slice (some ⟨b,off,none⟩) len k)) {nl:Option Bool} {es:Nat} {cap:Option Nat} {rows:List (List C)} (hr:st.roots n=.sl true nl es cap rows) :
  ∃ k',m n []=.slice (some ⟨b,off,none⟩) rows.length k':=by
 obtain ⟨b',off',k1,k2,e1,nl',es',cap',rows',e2,e3⟩:=pin_of H ht h0;rw [hv] at e1;rw [hr] at e2;cases e1;cases e2;exact ⟨k2,e3⟩
theorem yh {m:Nat->Path->Value} {st:St} {w:World} {n b off k':Nat} {nl:Option Bool} {es:Nat} {cap:Option Nat} {rows:List (List C)} (hr:st.roots n=.sl true nl es cap rows) (hm:m n []=.slice (some ⟨b,off,none⟩) rows.length k') (i j:Nat) :
  RelT X m st w (.pref n [] i j) (.pointer (some ⟨b,off+i * es+j,none⟩)):=
 ⟨1,nl,es,cap,rows,b,off,k',by simp [C.at,hr],hm,rfl⟩
theorem B6 {m:Nat->Path->Value} {st:St} {w:World} {n b off k':Nat} {nl:Option Bool} {es:Nat} {cap:Option Nat} {rows:List (List C)} (hr:st.roots n=.sl true nl es cap rows) (hm:m n []=.slice (some ⟨b,off,none⟩) rows.length k') {i j:Nat} {u:Value} (h:RelT X m st w (.pref n [] i j) u) :
  u=.pointer (some ⟨b,off+i * es+j,none⟩):=by
 obtain ⟨d,h⟩:=h;cases d with
 | zero=>exact h.elim
 | succ d=>
 obtain ⟨nl',es',cap',rows',b',off',k1,e1,e2,e3⟩:=h;simp only [C.at,hr,Option.some.injEq,C.sl.injEq,true_and] at e1;obtain ⟨_,rfl,_,rfl⟩:=e1;rw [hm] at e2;cases e2;exact e3
theorem ya {tp:Tmp} {v:Value} {x y:Code} {Q:Exit->St->Prop} {st:St} {Z:St->Prop} (hx:WkP tp v E x (fun e s=>e=.normal/\Z s) st) (hkx:keepC [tp] x=true) (hy:∀ s,Z s->WkP tp v E y Q s):WkP tp v E (.seq x y) Q st:=by
 intro P hT hG hm hc X a w H hp ts hk;simp only [codeOk,Bool.and_eq_true] at hc;simp only [keepC,Bool.and_eq_true] at hk;refine wp_seq (wp_mono (hx P hT hG hm hc.1 X a w H hp (tp::ts) (yU hkx hk.1)) ?_);rintro e a' w' ⟨⟨s,⟨rfl,hz⟩,H'⟩,hsm⟩;have hs:=hsm.resolve_left (by simp);exact wp_mono (hy s hz P hT hG hm hc.2 X a' w' H' ((hs tp (by simp)).trans hp) ts hk.2) fun e a2 w2 h2=>h2.from fun t ht=>hs t (by simp [ht])
theorem zk {id:Nat} {y:Code} {Q:Exit->St->Prop} {st:St} (n tp tq:Nat) (A B:List Nat) (hn:n<=ops.size) (hA:pickO ops A=ops.toList.take n) (hB:pickO ops B=ops.toList.drop n) (hkp:(ops.toList.drop n).all (keepO [tp])=true)
  (h:∀ Y:St->Prop,(∀ s,(∃ nr len i nl es cap rows,s.tmps[tp]?=some (.pal nr [] 0 len none)/\0 < len/\s.roots nr=.sl true nl es cap rows/\s.tmps[tq]?=some (.pref nr [] i 0)/\tp≠tq ∧
   ∀ b off k,∀ Y2:St->Prop,(∀ s2,WkP tp (.slice (some ⟨b,off,none⟩) len k) E y Q s2->Y2 s2)->RX E false (gdOf ops) (barC ops) 0 (pickO ops B) { s with tmps:=s.tmps.set tq (.val (.pointer (some ⟨b,off+i * es,none⟩))) } Y2)->Y s) ->
   RX E false (gdOf ops) (barC ops) 0 (pickO ops A) st Y):Wk E (.seq (.region id ops false) y) Q st:=by
 rw [hA,hB] at h;intro P hT hG hm hc X a w H ts hk;simp only [codeOk,Bool.and_eq_true] at hc;simp only [keepC,Bool.and_eq_true] at hk;obtain ⟨s1,h1,nr,len,i,nl,es,cap,rows,t1,t2,t3,t4,tne,h2⟩:=RX_run _ _ _ _ (h _ fun s hs=>hs)
 let Z:Exit->Act->World->Prop:=fun e a' w'=>e=.normal/\∃ s b off k,WkP tp (.slice (some ⟨b,off,none⟩) len k) E y Q s/\Inv X s a' w'/\a'.tmps[tp]?=some (.slice (some ⟨b,off,none⟩) len k)
 have hreg:(Code.region id ops false).wp P (Kp ts a Z) a w:=by
  refine wp_region (sO hk.1 _ _ _ (.refl _ _) ?_);have hlen:(ops.toList.take n).length=n:=by simp; omega
  have:List.range ops.size=List.range' 0 (ops.toList.take n).length++List.range' n (ops.toList.drop n).length:=by
   rw [hlen,List.range_eq_range',List.length_drop,Array.length_toList];have:=List.range'_append_1 (s:=0) (m:=n) (n:=ops.size - n);rw [Nat.zero_add] at this;rw [this]
   congr 1
   omega
  rw [this];refine wP hT hG _ 0 H (fun j hj=>?_) h1 ?_
  ·rw [hlen] at hj;rw [List.getElem?_take_of_lt hj];simp
  ·intro a1 w1 ⟨m1,H1⟩;obtain ⟨b,off,k,k',p1,nl',es',cap',rows',p2,p3⟩:=pin_of H1 t1 t2;rw [t3] at p2;cases p2;obtain ⟨uq,dq,q1,q2⟩:=H1.tmp tq _ t4;have hu:=B6 t3 p3 ⟨dq,q2⟩;obtain ⟨s2,g1,g2⟩:=RX_run _ _ _ _ (h2 b off k _ fun s hs=>hs);have H2:=H1.retell (t:=tq) (c:=.val (.pointer (some ⟨b,off+i * es,none⟩))) q1 ⟨1,by rw [hu]; rfl⟩;have:=wP hT hG (rest:=[]) (Q:=fun e a' w'=>e=.normal/\Inv X s2 a' w') (ops.toList.drop n) n ⟨m1,H2⟩ (fun j _=>by simp) g1 (fun a' w' H'=>⟨rfl,H'⟩);rw [List.append_nil] at this;have hall:(ops.toList).drop n=(ops.toList).drop n:=rfl;refine wJ ?_ _ _ _ (wL (ts:=[tp]) hkp _ a1 w1 (.refl _ _) (fun i hi=>by simp only [List.mem_range'_1,List.length_drop,Array.length_toList] at hi; omega) this);rintro e a' w' ⟨⟨rfl,H'⟩,hs⟩;have hs:=hs.resolve_left (by simp);exact ⟨rfl,s2,b,off,k,g2,H',(hs tp (by simp)).trans p1⟩
 refine wp_seq (wp_mono hreg ?_);rintro e a' w' ⟨⟨rfl,s,b,off,k,g,H',hp⟩,hs⟩;have hs:=hs.resolve_left (by simp);exact wp_mono (g P hT hG hm hc.2 X a' w' H' hp ts hk.2) fun e a2 w2 h2=>h2.from hs
end
end Go.Abs

namespace Go.Abs
section
variable {P:Program} {ops:Array Oper} {E:Env} {X:Ctx}
def aliasO (ops:Array Oper) (tt:TypeId) (tv tp i:Nat):Bool:=match ops[i]? with
 | some o=>(match o.op,o.dst with
  | .load t (.tmp x),some d=>t == tt && (x == tv && (d != tv && d != tp))
  | _,_=>false)
 | none=>false
def l6 (ops:Array Oper) (c:C):List Nat->St->St
 | [],st=>st
 | i::l,st=>l6 ops c l (match ops[i]? with|some o=>st.put o.dst c|none=>st)
theorem wo {tt:TypeId} {tv tp i:Nat} (h:aliasO ops tt tv tp i=true):∃ o d,ops[i]?=some o/\o.op=.load tt (.tmp tv)/\o.dst=some d/\d≠tv/\d≠tp:=by
 unfold aliasO at h;split at h
 ·rename_i o ho;split at h
  ·rename_i t x d hop hd;simp only [Bool.and_eq_true,beq_iff_eq,bne_iff_ne] at h;obtain ⟨rfl,rfl,h1,h2⟩:=h;exact ⟨o,d,ho,hop,hd,h1,h2⟩
  ·cases h
 ·cases h
theorem Bk {st:St} {d t:Nat} {c:C} (h:d≠t):(st.put (some d) c).tmps[t]?=st.tmps[t]?:=by
 simp [St.put,List.getElem?_set_ne h]
theorem A_run (hT:TOk P E) {Q:Exit->Act->World->Prop} {R:Nat->World->World->Prop} {T0 C1 C2 V:List Nat} {O2:List (List Nat)} (hsel:Region.noSelect ops=true) (hcov:(List.range ops.size).all (fun j=>T0.contains j || (C1.contains j || C2.contains j))=true)
  (hQ:∀ c a w,¬ Q (.panic c) a w) {m:Nat->Path->Value} {w:World} {fuel:Nat} {Bs:Nat->Prop}
  (hB:∀ n∈V,∀ b,blk (m n [])=some b->Bs b)
  (hR:∀ j w w',R j w w'↔(if T0.contains j=true then w'=w else if C1.contains j=true then (∀ b,Bs b->w'.heap[b]?=w.heap[b]?)/\(stillB ops j=true->w'=w)/\(newB ops j=true->∀ b,b < w.heap.size->w'.heap[b]?=w.heap[b]?) else True))
  {tt:TypeId} {tv tp nv:Nat} {ptr:Value} {c:C} (hnv:nv∈V) {ti:TI} (hti:E.T tt=some ti) (hsz:ti.size=1) (hag:ti.agg=false):∀ (A T:List Nat) {listed:Array Bool} {st:St} {a:Act},
  (∀ i∈A,i∈T0)->Down ops listed->InvM X m st a w->chkT1 ops C1 O2 C2 (A++T) listed=true->A.all (aliasO ops tt tv tp)=true ->
  st.tmps[tv]?=some (.pref nv [] 0 0)->st.roots nv=.sl true none 1 (some 1) [[.val ptr]]->(∀ s:St,s.roots=st.roots->RelT X m s w c ptr) ->
  (∀ listed a',InvM X m (l6 ops c A st) a' w->Down ops listed->chkT1 ops C1 O2 C2 T listed=true->wpAnyR P ops Q R fuel listed a' w)->wpAnyR P ops Q R (A.length+fuel) listed a w:=by
 intro A
 induction A with
 | nil=>
  intro T listed st a _ hd H hc _ _ _ _ hk;simpa using hk listed a H hd hc
 | cons i A ih=>
  intro T listed st a hT0 hd H hc hA htv hroot hrel hk;simp only [List.cons_append,chkT1,Bool.and_eq_true] at hc;obtain ⟨hc1,hc2⟩:=hc;split at hc1
  case h_2=>cases hc1
  rename_i o ho;simp only [Bool.and_eq_true] at hc1;obtain ⟨hqt,hrd,hfr,hld,hno⟩:=hc1;simp only [List.all_cons,Bool.and_eq_true] at hA;obtain ⟨o',d,ho',hop,hdst,hdv,hdp⟩:=wo hA.1;rw [ho] at ho';cases ho';have hrd:i∈Region.ready .any ops listed:=by simpa using hrd
  have hev:st.ev (.tmp tv)=.pref nv [] 0 0:=by simp [St.ev,htv]
  have hload:loadC st ti (.pref nv [] 0 0)=some (.val ptr):=by
   simp only [loadC,St.node,hroot,C.at,List.getElem?_cons_zero,List.length_cons,List.length_nil,hsz,List.drop_zero,List.take_succ_cons,List.take_zero,eE,packC,hag];rfl
  have gq:qop E st o.op=some (.val ptr):=by
   simp only [hop,qop,hti,Option.bind_some,hev,hload]
  obtain ⟨v,e1,e2⟩:=qop_ok hT H gq;have hv:v=ptr:=by
   obtain ⟨dd,e2⟩:=e2;cases dd with
   | zero=>exact e2.elim
   | succ dd=>exact e2
  subst hv;obtain ⟨dd,hr2⟩:=hrel st rfl;have hput:InvM X m (st.put o.dst c) (a.put o.dst v) w:=H.put o.dst hr2;have next:=ih T (listed:=listed.setIfInBounds i true) (st:=st.put o.dst c) (a:=a.put o.dst v) (fun j hj=>hT0 j (by simp [hj])) (hd.ready hrd) hput hc2 hA.2
   (by rw [hdst,Bk hdv]; exact htv) (by rw [hdst]; exact hroot) (fun s hs=>hrel s (by rw [hs,hdst]; rfl)) (by simpa [l6,ho] using hk)
  have hiT:T0.contains i=true:=by simpa using hT0 i (by simp)
  have hld:fastL ops C2 i=true:=by simpa [isLd,hop] using hld
  have hready2:∀ (l:Array Bool) j,Down ops l->l.getD i true=false->j∈Region.ready .any ops l->C2.contains j=false:=by
   intro l j hdl hun hj;cases hcj:C2.contains j with
   | false=>rfl
   | true=>
    exfalso;have hor:ordB ops ops.size i j=true:=List.all_eq_true.1 hld j (by simpa using hcj);obtain ⟨_,oj,hoj,hall⟩:=mem_ready.1 hj;rw [gQ (kW hdl ops.size i j oj hoj hall hor)] at hun;cases hun
  have hcover:∀ (l:Array Bool) j,j∈Region.ready .any ops l->T0.contains j=false->C1.contains j=false->C2.contains j=true:=by
   intro l j hj h1 h2;obtain ⟨_,oj,hoj,_⟩:=mem_ready.1 hj;have:=List.all_eq_true.1 hcov j (by simpa using (Array.getElem?_eq_some_iff.1 hoj).1);simpa only [h1,h2,Bool.false_or] using this
  have hx:=ev_ok H (.tmp tv);rw [hev] at hx;have e1':(Instr.loadAt tt (a.eval (.tmp tv))).run P w=.ok v w:=by
   simp only [execOp,hop,Sem.run_bind] at e1;cases hr:(Instr.loadAt tt (a.eval (.tmp tv))).run P w with
   | ok v' w'=>
    rw [hr] at e1;simp only [Result.andThen_ok,Sem.run_pure,Result.ok.injEq,Next.value.injEq] at e1;rw [e1.1,e1.2]
   | halt e w'=>rw [hr] at e1; cases e1
  obtain ⟨b,b1,_,b3⟩:=sL hT H (hT tt ti hti) hx hload e1';rw [show (i::A).length+fuel=A.length+fuel+1 from by simp; omega];refine qS ho (lf hqt) (Region.noSelect_spec hsel) (fun c a w hp=>(hQ c _ _ hp).elim) (fun w=>(hR i w w).2 (by rw [if_pos hiT])) (Sx:=fun w2=>w2.heap[b]?=w.heap[b]?) ?_ _ _ _ _ hd (Region.free_spec ho hfr) hrd rfl (fun w2 hw2=>by simp only [execOp,hop,Sem.run_bind,b3 w2 hw2,Result.andThen_ok,Sem.run_pure]) next
  intro l j w1 w2 hdl hun hj hji hRj hw;have h2:=hready2 l j hdl hun hj;rw [hR] at hRj;cases h0:T0.contains j with
  | true=>rw [if_pos h0] at hRj; rw [hRj]; exact hw
  | false=>
   rw [if_neg (by rw [h0]; simp)] at hRj;cases h1:C1.contains j with
   | true=>rw [if_pos h1] at hRj; exact (hRj.1 b (hB nv hnv b b1)).trans hw
   | false=>rw [hcover l j hj h0 h1] at h2; cases h2
theorem AT_run (hT:TOk P E) {Q:Exit->Act->World->Prop} {A T C1 C2:List Nat} (hc:chkTC ops (A++T) C1 [] C2=true) (hQ:∀ c a w,¬ Q (.panic c) a w)
  {tt:TypeId} {tv tp nv:Nat} {ptr:Value} {c:C} {ti:TI} (hti:E.T tt=some ti) (hsz:ti.size=1) (hag:ti.agg=false) (hA:A.all (aliasO ops tt tv tp)=true)
  {m:Nat->Path->Value} {st s1 sT:St} {a:Act} {w:World} (H:InvM X m st a w) (htv:st.tmps[tv]?=some (.pref nv [] 0 0)) (hroot:st.roots nv=.sl true none 1 (some 1) [[.val ptr]]) (hrel:∀ s:St,s.roots=st.roots->RelT X m s w c ptr)
  (hst:l6 ops c A st=s1) (hrun:runL E ops (pickO ops T) s1=some sT) (hchk:chkS ops T C1 [nv] sT=true) {R:Nat->World->World->Prop}
  (hR:∀ j w w',R j w w'↔(if (A++T).contains j=true then w'=w else if C1.contains j=true then (∀ b,(∃ n∈[nv],blk (m n [])=some b)->w'.heap[b]?=w.heap[b]?)/\(stillB ops j=true->w'=w)/\(newB ops j=true->∀ b,b < w.heap.size->w'.heap[b]?=w.heap[b]?) else True))
  (hend:∀ listed a',InvM X m sT a' w->treeB ops C2 C1.length [C1] listed=true->wpAnyR P ops Q R (C1.length+C2.length) listed a' w) :
  wpAnyR P ops Q R ops.size (Array.replicate ops.size false) a w:=by
 simp only [chkTC,Bool.and_eq_true,beq_iff_eq] at hc;obtain ⟨c1,c2,c3,c4,c5,c6,c8,c7⟩:=hc;simp only [chkS,Bool.and_eq_true] at hchk;obtain ⟨k1,k2,k3⟩:=hchk;have hdown:Down ops (Array.replicate ops.size false):=by
  intro i o e hi;have:(Array.replicate ops.size false).getD i false=false:=by
   simp only [Array.getD_eq_getD_getElem?,Array.getElem?_replicate];split<;>rfl
  rw [this] at hi;cases hi
 have e:A.length+(T.length+(C1.length+C2.length))=ops.size:=by
  rw [<-c3,List.length_append]; omega
 have main:=A_run hT (V:=[nv]) (T0:=A++T) (C1:=C1) (C2:=C2) (O2:=[]) (Q:=Q) (R:=R) (fuel:=T.length+(C1.length+C2.length)) (Bs:=fun b=>∃ n∈[nv],blk (m n [])=some b) c1 c4 hQ (fun n hn b hb=>⟨n,hn,hb⟩) hR (tt:=tt) (tv:=tv) (tp:=tp) (nv:=nv) (ptr:=ptr) (c:=c) (by simp) hti hsz hag A T
  (listed:=Array.replicate ops.size false) (st:=st) (a:=a) (fun i hi=>by simp [hi]) hdown H c7 hA htv hroot hrel (fun listed a' H' hd' hc'=>?_)
 ·rw [e] at main; exact main
 ·rw [hst] at H';exact T_run hT (T0:=A++T) (C1:=C1) (C2:=C2) (V:=[nv]) (O2:=[]) (Bs:=fun b=>∃ n∈[nv],blk (m n [])=some b) c1 c4 c5 hQ (fun n hn b hb=>⟨n,hn,hb⟩) hR T (fun i hi=>by simp [hi]) hd' H' hrun hc' k3 hend
theorem wZ {m:Nat->Path->Value} {st:St} {a:Act} {w:World} (H:InvM X m st a w) {n:Nat} {nl:Option Bool} {es:Nat} {cap:Option Nat} {rows:List (List C)} (hr:st.roots n=.sl true nl es cap rows) {b off k':Nat} (hm:m n []=.slice (some ⟨b,off,none⟩) rows.length k') {i:Nat} {row:List C} (hi:rows[i]?=some row) :
  k'≠0/\row.length=es/\∃ arr elem frz,w.heap[b]?=some (.cells arr elem frz)/\∀ (j:Nat) v,row[j]?=some (.val v)->arr[off+i * es+j]?=some v:=by
 obtain ⟨u,d,hrel⟩:=H.root n;rw [hr] at hrel;cases d with
 | zero=>exact hrel.elim
 | succ d=>
 obtain ⟨a0,k,h1,h2,h3,h4,hz,h5,h6,h7⟩:=hrel;have hu:=h6 rfl;rw [hm,h1] at hu;cases hu;have hil:=(List.getElem?_eq_some_iff.1 hi).1;rcases h7 with h7|⟨h7,_⟩|⟨b',off',arr,elem,frz,g1,g2,g3,g4,g5⟩
 ·omega
 ·simp at h7
 ·cases g1;refine ⟨by omega,h5 _ (List.mem_of_getElem? hi),arr,elem,frz,g2,fun j v hj=>?_⟩;obtain ⟨u',f1,f2⟩:=g5 i j row _ hi hj;cases d with
  | zero=>exact f2.elim
  | succ d=>
   have:u'=v:=f2;rw [<-this]; exact f1
theorem wb {tp b off len k:Nat} {id:Nat} {y:Code} {Q:Exit->St->Prop} {st:St} (A T C1 C2:List Nat) (tt:TypeId) (tv nv nr i:Nat) {nl:Option Bool} {es:Nat} {cap:Option Nat} {rows:List (List C)}
  (hc:chkTC ops (A++T) C1 [] C2=true) (hkp:ops.toList.all (keepO [tp])=true) (hA:A.all (aliasO ops tt tv tp)=true) (hE:((E.T tt).map fun ti=>ti.size == 1 && !ti.agg)=some true)
  (hpal:st.tmps[tp]?=some (.pal nr [] 0 len none)) (h0:0 < len) (hroot:st.roots nr=.sl true nl es cap rows)
  (htv:st.tmps[tv]?=some (.pref nv [] 0 0)) (hvar:st.roots nv=.sl true none 1 (some 1) [[.val (.pointer (some ⟨b,off+i * es,none⟩))]]) {s1:St} (hst:l6 ops (.pref nr [] i 0) A st=s1)
  (h:∀ Z:St->Prop,(∀ s,WkP tp (.slice (some ⟨b,off,none⟩) len k) E y Q s->Z s)->∀ Y:St->Prop,(∀ s,chkS ops T C1 [nv] s=true->Hop E ops [nv] [] C2 Z s C1 s->Y s)->RX E false (gdOf ops) (barC ops) 0 (pickO ops T) s1 Y) :
  WkP tp (.slice (some ⟨b,off,none⟩) len k) E (.seq (.region id ops true) y) Q st:=by
 refine ya (Z:=fun s=>WkP tp (.slice (some ⟨b,off,none⟩) len k) E y Q s) ?_ (by simpa [keepC] using hkp) fun s hs=>hs;intro P hT hG hm hco X a w H hp ts hk;obtain ⟨m,H⟩:=H;obtain ⟨sT,h1,h2,h3⟩:=RX_run _ _ _ _ (h (fun s=>WkP tp (.slice (some ⟨b,off,none⟩) len k) E y Q s) (fun _ h=>h) (fun s=>chkS ops T C1 [nv] s=true/\Hop E ops [nv] [] C2 (fun s=>WkP tp (.slice (some ⟨b,off,none⟩) len k) E y Q s) s C1 s) fun _ a b=>⟨a,b⟩);obtain ⟨ti,hti,hq⟩:=Option.map_eq_some_iff.1 hE;simp only [Bool.and_eq_true,beq_iff_eq,Bool.not_eq_true'] at hq;obtain ⟨k',hmr⟩:=pin_m H hpal h0 hp hroot;have Hd:InvM X m st a { w with drawn:=w.drawn+1 }:=H.world rfl rfl rfl rfl;refine wp_mono (wp_region_any hm (mS (Q:=fun e a' w'=>e=.normal/\∃ s,WkP tp (.slice (some ⟨b,off,none⟩) len k) E y Q s/\Inv X s a' w') hk _ _ _ _ (.refl _ _) (oZ
  (R:=fun j w w'=>if (A++T).contains j=true then w'=w else if C1.contains j=true then (∀ b,(∃ n∈[nv],blk (m n [])=some b)->w'.heap[b]?=w.heap[b]?)/\(stillB ops j=true->w'=w)/\(newB ops j=true->∀ b,b < w.heap.size->w'.heap[b]?=w.heap[b]?) else True) _ _ _ _ ?_))) ?_
 ·refine AT_run (Q:=fun e a' w'=>e=.normal/\∃ s,WkP tp (.slice (some ⟨b,off,none⟩) len k) E y Q s/\Inv X s a' w') hT hc (fun c a w hp=>by cases hp.1) hti hq.1 hq.2 hA Hd htv hvar (c:=.pref nr [] i 0) ?_ hst h1 h2 (fun j w w'=>Iff.rfl) ?_
  ·intro s hs;exact yh (hs ▸ hroot:s.roots nr=_) hmr i 0
  ·intro listed a' H' hch;obtain ⟨sC,g1,_,g3⟩:=Hop_to C1 h3;obtain ⟨sf,q1,q2⟩:=RX_run _ _ _ _ g3;simp only [chkS,Bool.and_eq_true] at h2;obtain ⟨k1,k2,_⟩:=h2;rw [List.all_eq_true] at k2;simp only [chkTC,Bool.and_eq_true] at hc;obtain ⟨c1,c2,c3,c4,c5,c6,c8,c7⟩:=hc;rw [List.all_eq_true] at c5 c6;have ht:∀ j∈C1++C2,(A++T).contains j=false:=fun j hj=>by simpa using c5 j hj
   refine treeR hT hG (C1:=C1) (sC:=sC) (V:=[nv]) (Bs:=fun b=>∃ n∈[nv],blk (m n [])=some b) ?_ ?_ ?_ (fun listed a w Hs hch=>chain2 hT hG (sf:=sf) (fun a w H'=>⟨rfl,sf,q2,H'⟩) C2 (fun j hj w w'=>?_) Hs q1 hch) C1.length [C1] ?_ H' k1 (fun b hb=>hb) ?_ hch
   ·intro j hj w w' hb hst hnw;rw [if_neg (by rw [ht j (by simp [hj])]; simp),if_pos (by simpa using hj)];exact ⟨hb,hst,hnw⟩
   ·intro j hj o ho n hn;have:=(k2 n hn);simp only [Bool.and_eq_true,List.all_eq_true] at this;have:=this.2 j hj;rw [ho] at this;simpa using this
   ·intro n hn;have:=(k2 n hn);simp only [Bool.and_eq_true,Nat.blt_eq] at this;exact this.1
   ·rw [if_neg (by rw [ht j (by simp [hj])]; simp),if_neg (by simpa using c6 j hj)]
    trivial
   ·intro o ho j hj;simp only [List.mem_singleton] at ho;subst ho;exact hj
   ·intro o ho;simp only [List.mem_singleton] at ho;subst ho;exact g1
 ·rintro e a' w' ⟨⟨rfl,s,g1,g2⟩,hs⟩;exact ⟨⟨s,⟨rfl,g1⟩,g2⟩,hs⟩
end
end Go.Abs

namespace Go.Abs
section
variable {P:Program} {ops:Array Oper} {E:Env} {X:Ctx}
def afterA (d es2:Nat) (R:List (List C)) (st1:St):St:=
 {tmps:=((st1.fresh d).tmps.map (poi fun n' _=>decide (H0<=n'))).set d (.pal d [] 0 R.length none),roots:=upd (clr 1 (st1.fresh d).roots) d (.sl true none es2 none R) }
attribute [go_sem] l6 afterA
theorem Aq (hG:GOk P E) {m:Nat->Path->Value} {st:St} {a:Act} {w:World} (H:InvM X m st a w) {o:Oper} {c:Call} (hop:o.op=.call c) {d f f2:Nat} (hdst:o.dst=some d) {nr nv L:Nat} {q:Path}
  (hct:callTo st c=some (f,[.pal nr q 0 L none,.clo f2 [.pref nv [] 0 0]])) {fs:FnS} (hfs:E.G d f=some fs) (hown:fs.own=[true,false]) (hpure:fs.pure=true) (hdH:d < H0) (hnv:nv < H0) (hnr:nr < H0)
  {st1:St} (hprep:dS 1 H0 [.pal nr q 0 L none] (.tup [.clo f2 [.pref nv [] 0 0]]) st=some (st1,.tup [.clo f2 [.pref nv [] 0 0]]))
  {R:List (List C)} {es2:Nat} (hh:st1.roots H0=.sl true none es2 none R) {b off i es:Nat} (hv1:st1.roots nv=.sl true none 1 (some 1) [[.val (.pointer (some ⟨b,off+i * es,none⟩))]])
  {nl:Option Bool} {cap:Option Nat} {rows1:List (List C)} (hr1:st1.roots nr=.sl true nl es cap rows1) {row1 row':List C} (hrow:rows1[i]?=some row1) (hlen':row'.length=row1.length) (hrow':∀ (j:Nat) c,row'[j]?=some c->c=.dead∨∃ v,c=.val v/\row1[j]?=some (.val v))
  {k':Nat} (hmr:m nr []=.slice (some ⟨b,off,none⟩) rows1.length k') {idx:List Nat} (hn:idx.Nodup) (hk:∀ k∈idx,k < R.length) (hone:∀ row∈R,∀ c∈row,oneR c=true)
  (hraw:∀ V:List (List Value),V.length=R.length->(∀ vr∈V,vr.length=es2)->(∀ vr∈V,∀ v∈vr,v.oneCell'=true)->(∀ (i j:Nat) row vr x v,R[i]?=some row->V[i]?=some vr->row[j]?=some (.val x)->vr[j]?=some v->v=x) ->
   fs.fn [.sl true none es2 none (bN V),.clo f2 [.iref 1 [[.iref es [row'] 0 0]] 0 0]]=some (.sl true none es2 none (bN (pick idx V))))
  {Qx:Exit->Act->World->Prop} :
  o.wp P a w (fun a' w'=>∃ m',InvM X m' (afterA d es2 (pick idx R) st1) a' w'/\KeepV (some d) m st w m' (afterA d es2 (pick idx R) st1) w') Qx:=by
 have hcon:ConV P f [true,false] [.sl true none es2 none R,.clo f2 [.iref 1 [[.iref es [row'] 0 0]] 0 0]] (.sl true none es2 none (pick idx R)):=by
  refine lift1V (by rfl) (fun n hn=>by cases n with|zero=>omega|succ n=>cases n<;>rfl) hn hk hone fun V v1 v2 v3 v4=>?_
  have:=(hG.1 d f fs hfs).con _ _ (hraw V v1 v2 v3 v4);rw [hown,hpure] at this;exact this
 have main:=vZ (P:=P) hG H hop hdst hct (fo:=[true,false]) rfl hdH (st1:=st1) (rest:=[.clo f2 [.pref nv [] 0 0]]) hprep (rs:=[.clo f2 [.iref 1 [[.iref es [row'] 0 0]] 0 0]])
  (cs:=[.sl true none es2 none R,.clo f2 [.iref 1 [[.iref es [row'] 0 0]] 0 0]]) (by simp only [bY,dA,inter,hh]) hcon (Qx:=Qx) ?_
 ·exact main
 ·intro m1 ur H1 hm1 hrest;refine ⟨rfl,fun j c0 hj=>?_⟩;cases j with
  | succ j=>simp at hj
  | zero=>
  simp only [List.getElem?_cons_zero,Option.some.injEq] at hj;subst hj;have hp:poi (fun n' _=>decide (H0<=n')) (.clo f2 [.pref nv [] 0 0])=.clo f2 [.pref nv [] 0 0]:=by
   simp only [poi,C.ment,List.any_cons,List.any_nil,Bool.or_false];rw [if_neg (by simp; omega)]
  obtain ⟨u,hu,d0,hr⟩:=hrest 0 (.clo f2 [.pref nv [] 0 0]) (by simp [hp]);refine ⟨u,hu,?_⟩;cases d0 with
  | zero=>exact hr.elim
  | succ d0=>
  obtain ⟨arr,e1,e2,e3⟩:=hr;obtain ⟨u0,f1,f2'⟩:=e3 0 (.pref nv [] 0 0) rfl;cases d0 with
  | zero=>exact f2'.elim
  | succ d0=>
  obtain ⟨nl0,es0,cap0,rows0,bc,offc,kc,g1,g2,g3⟩:=f2';simp only [C.at,hv1,Option.some.injEq,C.sl.injEq,true_and] at g1;obtain ⟨rfl,rfl,rfl,rfl⟩:=g1;obtain ⟨kc0,_,arrc,elc,frc,c1,c2⟩:=wZ H1 hv1 (b:=bc) (off:=offc) (k':=kc) g2 (i:=0) rfl;have c3:=c2 0 _ rfl;have hmr1:m1 nr []=.slice (some ⟨b,off,none⟩) rows1.length k':=by rw [hm1 nr [] hnr]; exact hmr
  obtain ⟨k0,hw1,arrr,elr,frr,r1,r2⟩:=wZ H1 hr1 hmr1 hrow;have own:∀ (n:Nat) (bb ob nn kk:Nat),n < H0->OwnAt (st1.roots n) []->kk≠0->m1 n []=.slice (some ⟨bb,ob,none⟩) nn kk->X.S st1.roots m1 bb∨OwnedN (fun n=>n < H0) st1.roots m1 bb:=by
   intro n bb ob nn kk hn ho hk hm;exact .inr ⟨n,[],hn,ho,by rw [hm]; simp [blk,hk]⟩
  have ov:OwnAt (st1.roots nv) []:=by simp [OwnAt,C.at,hv1,C.isOwn]
  have orr:OwnAt (st1.roots nr) []:=by simp [OwnAt,C.at,hr1,C.isOwn]
  refine ⟨4,arr,e1,e2,fun j c' hj=>?_⟩;cases j with
  | succ j=>simp at hj
  | zero=>
  simp only [List.getElem?_cons_zero,Option.some.injEq] at hj;subst hj;refine ⟨u0,f1,bc,offc,arrc,elc,frc,by rw [g3],c1,own nv bc offc _ kc hnv ov kc0 g2,by simp,?_⟩;intro i' j' row c' hi' hj';cases i' with
  | succ i'=>simp at hi'
  | zero=>
  simp only [List.getElem?_cons_zero,Option.some.injEq] at hi';subst hi';cases j' with
  | succ j'=>simp at hj'
  | zero=>
  simp only [List.getElem?_cons_zero,Option.some.injEq] at hj';subst hj';refine ⟨_,c3,b,off+i * es,arrr,elr,frr,by simp,r1,own nr b off _ k' hnr orr k0 hmr1,by simp [hlen',hw1],?_⟩;intro i' j' row c' hi' hj';cases i' with
  | succ i'=>simp at hi'
  | zero=>
  simp only [List.getElem?_cons_zero,Option.some.injEq] at hi';subst hi';have hjl:j' < row1.length:=by rw [<-hlen']; exact (List.getElem?_eq_some_iff.1 hj').1
  rcases hrow' j' c' hj' with rfl|⟨v,rfl,hv⟩
  ·
   obtain ⟨u9,d9,hrel9⟩:=H1.root nr;rw [hr1] at hrel9;cases d9 with
   | zero=>exact hrel9.elim
   | succ d9=>
   obtain ⟨a0,k9,h1,h2,h3,h4,hz,h5,h6,h7⟩:=hrel9;have hu9:=h6 rfl;rw [hmr1,h1] at hu9;cases hu9;rcases h7 with h7|⟨h7,_⟩|⟨b',off',arr9,elem9,frz9,g1',g2',g3',g4',g5'⟩
   ·omega
   ·simp at h7
   ·cases g1';rw [r1] at g2';cases g2';obtain ⟨u',f9,_⟩:=g5' i j' row1 row1[j'] hrow (List.getElem?_eq_getElem hjl);exact ⟨u',by rw [<-f9]; simp,trivial⟩
  ·exact ⟨v,by have:=r2 j' v hv; rw [<-this]; simp,rfl⟩
structure ru (E:Env) (ops:Array Oper) (ci nv nr b off i es n0:Nat) (C2:List Nat) (s:St) (Z:St->Prop) (o:Oper) (c:Call) (d f f2 L:Nat) (q:Path) (fs:FnS) (st1:St) (R:List (List C)) (es2:Nat) (nl:Option Bool) (cap:Option Nat) (rows1:List (List C)) (row1 row':List C) (idx:List Nat):Prop where
 at':ops[ci]?=some o
 op:o.op=.call c
 dst:o.dst=some d
 gd:o.guard=none
 to:callTo s c=some (f,[.pal nr q 0 L none,.clo f2 [.pref nv [] 0 0]])
 fs':E.G d f=some fs
 own:fs.own=[true,false]
 pure':fs.pure=true
 dH:d < H0
 dv:d≠nv
 vH:nv < H0
 rH:nr < H0
 prep:dS 1 H0 [.pal nr q 0 L none] (.tup [.clo f2 [.pref nv [] 0 0]]) s=some (st1,.tup [.clo f2 [.pref nv [] 0 0]])
 hand:st1.roots H0=.sl true none es2 none R
 var:st1.roots nv=.sl true none 1 (some 1) [[.val (.pointer (some ⟨b,off+i * es,none⟩))]]
 root:st1.roots nr=.sl true nl es cap rows1
 len:rows1.length=n0
 row:rows1[i]?=some row1
 wid:row'.length=row1.length
 less:∀ (j:Nat) c,row'[j]?=some c->c=.dead∨∃ v,c=.val v/\row1[j]?=some (.val v)
 nd:idx.Nodup
 lt:∀ k∈idx,k < R.length
 one:∀ row∈R,∀ c∈row,oneR c=true
 raw:∀ V:List (List Value),V.length=R.length->(∀ vr∈V,vr.length=es2)->(∀ vr∈V,∀ v∈vr,v.oneCell'=true)->(∀ (i j:Nat) row vr x v,R[i]?=some row->V[i]?=some vr->row[j]?=some (.val x)->vr[j]?=some v->v=x) ->
   fs.fn [.sl true none es2 none (bN V),.clo f2 [.iref 1 [[.iref es [row'] 0 0]] 0 0]]=some (.sl true none es2 none (bN (pick idx V)))
 keep:ownV [nv] (afterA d es2 (pick idx R) st1)=true
 rest:RX E false (gdOf ops) (barC ops) 0 (pickO ops C2) (afterA d es2 (pick idx R) st1) Z
theorem BV {ci nv nr b off i es n0:Nat} {C2:List Nat} {s:St} {Z:St->Prop} {o:Oper} {c:Call} (d f f2 L:Nat) (q:Path) (fs:FnS) (R:List (List C)) (es2:Nat) (rows1:List (List C)) (row1 row':List C) (idx:List Nat)
  (h:ru E ops ci nv nr b off i es n0 C2 s Z o c d f f2 L q fs (s.move nr q 0 L none H0 es2 R) R es2 none none rows1 row1 row' idx) :
  ∃ o c d f f2 L q fs st1 R es2 nl cap rows1 row1 row' idx,ru E ops ci nv nr b off i es n0 C2 s Z o c d f f2 L q fs st1 R es2 nl cap rows1 row1 row' idx:=
 ⟨o,c,d,f,f2,L,q,fs,_,R,es2,none,none,rows1,row1,row',idx,h⟩
theorem wG {tp b off len k:Nat} {id:Nat} {y:Code} {Q:Exit->St->Prop} {st:St} (A T C2:List Nat) (ci:Nat) (tt:TypeId) (tv nv nr i:Nat) {nl:Option Bool} {es:Nat} {cap:Option Nat} {rows:List (List C)}
  (hc:chkTC ops (A++T) [ci] [] C2=true) (hkp:ops.toList.all (keepO [tp])=true) (hA:A.all (aliasO ops tt tv tp)=true) (hE:((E.T tt).map fun ti=>ti.size == 1 && !ti.agg)=some true)
  (hpal:st.tmps[tp]?=some (.pal nr [] 0 len none)) (h0:0 < len) (hroot:st.roots nr=.sl true nl es cap rows)
  (htv:st.tmps[tv]?=some (.pref nv [] 0 0)) (hvar:st.roots nv=.sl true none 1 (some 1) [[.val (.pointer (some ⟨b,off+i * es,none⟩))]]) {s1:St} (hst:l6 ops (.pref nr [] i 0) A st=s1)
  (h:∀ Z:St->Prop,(∀ s,WkP tp (.slice (some ⟨b,off,none⟩) len k) E y Q s->Z s)->∀ Y:St->Prop,(∀ s,chkS ops T [ci] [nv] s=true ->
   (∃ o c d f f2 L q fs st1 R es2 nl cap rows1 row1 row' idx,ru E ops ci nv nr b off i es rows.length C2 s Z o c d f f2 L q fs st1 R es2 nl cap rows1 row1 row' idx)->Y s)->RX E false (gdOf ops) (barC ops) 0 (pickO ops T) s1 Y) :
  WkP tp (.slice (some ⟨b,off,none⟩) len k) E (.seq (.region id ops true) y) Q st:=by
 refine ya (Z:=fun s=>WkP tp (.slice (some ⟨b,off,none⟩) len k) E y Q s) ?_ (by simpa [keepC] using hkp) fun s hs=>hs;intro P hT hG hm hco X a w H hp ts hk;obtain ⟨m,H⟩:=H;obtain ⟨sT,h1,h2,o,c,d,f,f2,L,q,fs,st1,R0',es2,nl1,cap1,rows1,row1,row',idx,g⟩:=RX_run _ _ _ _ (h (fun s=>WkP tp (.slice (some ⟨b,off,none⟩) len k) E y Q s) (fun _ h=>h) (fun s=>chkS ops T [ci] [nv] s=true ∧
  ∃ o c d f f2 L q fs st1 R es2 nl cap rows1 row1 row' idx,ru E ops ci nv nr b off i es rows.length C2 s (fun s=>WkP tp (.slice (some ⟨b,off,none⟩) len k) E y Q s) o c d f f2 L q fs st1 R es2 nl cap rows1 row1 row' idx) fun _ a b=>⟨a,b⟩)
 obtain ⟨ti,hti,hq⟩:=Option.map_eq_some_iff.1 hE;simp only [Bool.and_eq_true,beq_iff_eq,Bool.not_eq_true'] at hq;obtain ⟨k',hmr⟩:=pin_m H hpal h0 hp hroot;have Hd:InvM X m st a { w with drawn:=w.drawn+1 }:=H.world rfl rfl rfl rfl;refine wp_mono (wp_region_any hm (mS (Q:=fun e a' w'=>e=.normal/\∃ s,WkP tp (.slice (some ⟨b,off,none⟩) len k) E y Q s/\Inv X s a' w') hk _ _ _ _ (.refl _ _) (oZ
  (R:=fun j w w'=>if (A++T).contains j=true then w'=w else if [ci].contains j=true then (∀ b,(∃ n∈[nv],blk (m n [])=some b)->w'.heap[b]?=w.heap[b]?)/\(stillB ops j=true->w'=w)/\(newB ops j=true->∀ b,b < w.heap.size->w'.heap[b]?=w.heap[b]?) else True) _ _ _ _ ?_))) ?_
 ·refine AT_run (Q:=fun e a' w'=>e=.normal/\∃ s,WkP tp (.slice (some ⟨b,off,none⟩) len k) E y Q s/\Inv X s a' w') hT hc (fun c a w hp=>by cases hp.1) hti hq.1 hq.2 hA Hd htv hvar (c:=.pref nr [] i 0) ?_ hst h1 h2 (fun j w w'=>Iff.rfl) ?_
  ·intro s hs;exact yh (hs ▸ hroot:s.roots nr=_) hmr i 0
  ·intro listed a' H' hch;obtain ⟨sf,q1,q2⟩:=RX_run _ _ _ _ g.rest;simp only [chkS,Bool.and_eq_true] at h2;have hown:=h2.1;simp only [treeB,List.length_cons,List.length_nil,Bool.and_eq_true,Bool.not_eq_true',List.isEmpty_eq_false_iff] at hch;obtain ⟨_,hne,hall⟩:=hch;simp only [chkTC,Bool.and_eq_true] at hc;obtain ⟨c1,c2,c3,c4,c5,c6,c8,c7⟩:=hc;rw [List.all_eq_true] at c5 c6;rw [show [ci].length+C2.length=C2.length+1 from by simp; omega];refine ⟨fun hr=>absurd hr hne,fun j hj=>?_⟩;have hsub:=List.all_eq_true.1 hall j hj;have hji:j=ci:=by
    by_cases e:ci=j
    ·exact e.symm
    ·exfalso;have e0:([[ci]].filter fun o=>o.head? == some j)=[]:=by
      rw [List.filter_eq_nil_iff];intro l hl;simp only [List.mem_singleton] at hl;subst hl;simpa using e
     rw [e0] at hsub;simp [treeB] at hsub
   subst hji;have hsub2:chainB ops C2 (listed.setIfInBounds j true)=true:=by
    simp [treeB,List.filter] at hsub;exact hsub
   unfold wpOp;simp only [g.at'];rw [if_pos (pe g.gd)];refine .inl (Oper.wp_mono (fun a2 w2 h'=>?_) (Aq hG H' g.op g.dst g.to g.fs' g.own g.pure' g.dH g.vH g.rH g.prep g.hand g.var g.root g.row g.wid g.less (by rw [g.len]; exact hmr) g.nd g.lt g.one g.raw));obtain ⟨m',H2,hkeep⟩:=h';have hkv:=hkeep nv g.vH (by simpa using g.dv) (own_at (by simpa [ownV] using hown)) (own_at (by simpa [ownV] using g.keep));refine ⟨?_,chain2 hT hG (sf:=sf) (fun a w H'=>⟨rfl,sf,q2,H'⟩) C2 (fun l hl w w'=>?_) ⟨m',H2⟩ q1 hsub2⟩
   ·rw [if_neg (by have:=c5 j (by simp); simpa using this),if_pos (by simp)];refine ⟨fun b0 hb=>?_,fun hs=>?_,fun hs=>?_⟩
    ·obtain ⟨n,hn,hb⟩:=hb;simp only [List.mem_singleton] at hn;subst hn;exact hkv.2 b0 hb
    ·have hto:=g.to;have hop:=g.op;obtain ⟨callee,args,tys⟩:=c;unfold callTo at hto;split at hto
     ·rename_i x hx;simp only at hx;subst hx;simp [stillB,g.at',stillO,quietA,quietT,hop] at hs
     ·cases hto
    ·simp [newB,g.at',newO,g.op] at hs
   ·rw [if_neg (by have:=c5 l (by simp [hl]); simpa using this),if_neg (by have:=c6 l hl; simpa using this)]
    trivial
 ·rintro e a' w' ⟨⟨rfl,s,g1,g2⟩,hs⟩;exact ⟨⟨s,⟨rfl,g1⟩,g2⟩,hs⟩
end
end Go.Abs

namespace Go.Abs
def bC (b:Bool):C:=.val (.bool b)
def iC (k:IntKind) (n:Int):C:=.val (.int k n)
theorem bC_eq (b:Bool):bC b=.val (.bool b):=rfl
theorem iC_eq (k:IntKind) (n:Int):iC k n=.val (.int k n):=rfl
section
variable {α:Type} {f:α->C} {l:List α} {j:Nat} {x:α}
end
attribute [go_sem] bC_eq iC_eq
end Go.Abs

namespace Go.Abs
theorem Ws {E:Env} {Q:Exit->St->Prop} {K:List Fm} {st:St} {id:Nat} {ops:Array Oper} {y:Code}
  (h:∀ Z:St->Prop,(∀ s,ap E Q (.sk y::K) .normal s->Z s)->RX E false (gdOf ops) (barC ops) 0 ops.toList st Z):Wk E (.seq (.region id ops false) y) (ap E Q K) st:=Wk_seq (aa h)
inductive XW (R:Nat->C):(Nat->C)->Prop where
 | n:XW R RZ
 | c {R':Nat->C} {d:Nat} {c:C} (h0:R d=c) (h:XW R R'):XW R (upd R' d c)
theorem XW.all {R R':Nat->C} (h:XW R R'):∀ k,R' k=R k∨R' k=.dead:=by
 induction h with
 | n=>exact xn
 | c h0 _ ih=>exact xc h0 ih
inductive RW (f R':Nat->C):(Nat->C)->Prop where
 | n:RW f R' deadT
 | c {g:Nat->C} {d:Nat} {c:C} (h0:f d=c) (hm:c.ment (fun k _=>isDead (R' k)) 3=false) (h:RW f R' g):RW f R' (updT g d c)
theorem RW.all {n:Nat} {f g R':Nat->C} (h:RW f R' g):∀ t,t < n->g t=.dead∨(g t=f t/\(g t).ment (fun k _=>isDead (R' k)) 3=false):=by
 induction h with
 | n=>exact rn
 | c h0 hm _ ih=>exact rc h0 hm ih
theorem wr {n:Nat} {f g:Nat->C} {R R':Nat->C} (hr:XW R R') (ht:RW f R' g):Weak ⟨tab n f,R⟩ ⟨tab n g,R'⟩:=yx hr.all ht.all
end Go.Abs
