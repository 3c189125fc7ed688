/- A library of readings of Go values with their ownership,and of walks on them. No statement of the program. -/
import Derived.Calls
import Derived.Orders
import Derived.Laws.AppendOwn
import Derived.Laws.Cells
import Derived.Laws.Tables
import Derived.Laws.Entries
import Derived.Deep.AppendSrc
import Derived.Laws.BytesString
import Derived.Great.BuildSlice
import Derived.Deep.Upon
set_option linter.unusedSimpArgs false
set_option linter.defProp false
namespace Go.Abs
def cb:=@Option.bind_some
def cc:=@Option.some.injEq
def cd:=@List.mem_of_getElem?
def cg:=@List.getElem?_eq_some_iff
def cj:=@List.getElem?_eq_getElem
def ck:=@Nat.le_refl
def cn:=@List.length_cons
def cq:=@Option.map_eq_some_iff
def cr:=@List.length_map
def cu:=@Int.toNat_natCast
def cv:=@Option.bind_eq_some_iff
def cw:=@List.length_nil
def cx:=@Bool.and_eq_true
def cy:=@Nat.zero_add
def cz:=@List.getElem?_map
def cC:=@List.getElem?_of_mem
def cE:=@List.all_eq_true
def cF:=@List.mem_cons
def cG:=@List.getElem?_cons_zero
def cH:=@List.mem_map
def cI:=@Option.map_some
def cJ:=@List.mem_append
def cK:=@List.mem_singleton
def cL:=@List.length_set
def cO:=@List.nil_append
def cP:=@Prod.mk.injEq
def cQ:=@Nat.zero_le
def cR:=@Nat.sub_zero
def cS:=@Bool.false_eq_true
def cT:=@List.take_of_length_le
def cU:=@Nat.le_of_ble_eq_true
def cV:=@List.pairwise_iff_getElem
def cW:=@List.map_append
def cX:=@Option.some.inj
def cY:=@Bool.or_self
def cZ:=@Nat.lt_succ_self
def hC:=@List.map_cons
def hU:=@List.append_assoc
def na:=@List.getElem?_append_left
def nb:=@List.eq_nil_of_length_eq_zero
def nc:=@List.length_append
def nf:=@Bool.or_eq_true
def ng:=@Array.getElem?_eq_some_iff
def ni:=@List.getElem?_append_right
def nj:=@Int.natCast_zero
def nk:=@Int.cast_ofNat_Int
def nn:=@List.append_nil
def nq:=@Nat.le_trans
def nr:=@Nat.mul_le_mul_right
def nt:=@List.getElem?_take
def nu:=@List.drop_zero
def nv:=@Bool.not_true
def nw:=@Nat.add_assoc
def nx:=@List.getElem_mem
def ny:=@Bool.not_eq_true'
def nz:=@List.getElem?_drop
def nA:=@List.map_nil
def nB:=@Option.getD_some
def nC:=@List.length_take
def nD:=@Bool.false_or
def nE:=@Int.toNat_zero
def nF:=@List.cons_append
def nG:=@List.not_mem_nil
def nH:=@Nat.add_mul
def nI:=@List.drop_eq_getElem_cons
def nJ:=@List.mem_of_mem_take
def nK:=@Bool.and_true
def nL:=@List.map_drop
def nM:=@Bool.not_false
def nN:=@Nat.lt_or_ge
def nO:=@List.getElem?_set
def nP:=@List.ext_getElem?
def nQ:=@List.length_pos_iff
def nR:=@List.all_cons
def nS:=@List.mem_iff_getElem?
def nT:=@List.mem_filter
def nU:=@Int.ofNat_lt
def nV:=@List.pairwise_cons
def nW:=@List.pairwise_map
def nX:=@Bool.and_false
def nY:=@List.getElem?_cons_succ
def nZ:=@Nat.lt_trichotomy
def n5:=@List.pairwise_append
def n7:=@Nat.le_succ
def n8:=@Bool.or_true
def n9:=@List.filter_cons
def xa:=@List.map_take
def xb:=@List.getElem?_set_ne
def xd:=@Int.natCast_nonneg
def xe:=@List.take_append_drop
def xf:=@List.singleton_append
def xg:=@List.size_toArray
def xh:=@List.drop_eq_nil_of_le
def xi:=@List.getElem?_take_of_lt
def xj:=@Bool.not_eq_true
def xk:=@List.length_replicate
def xl:=@List.getElem?_mapIdx
def xm:=@Bool.or_false
def xo:=@List.filter_append
def xp:=@List.take_add_one
def xq:=@List.any_eq_false
def xr:=@Bool.eq_iff_iff
def xt:=@List.take_append
def xu:=@List.map_eq_nil_iff
def xv:=@Nat.succ_ne_zero
def xw:=@Ne.symm
def xx:=@Classical.choose_spec
def xy:=@Nat.le_max_right
def xz:=@Nat.add_zero
def xA:=@List.foldl_cons
def xB:=@List.eq_of_mem_replicate
def xC:=@List.length_drop
def xD:=@Nat.sub_self
def xE:=@List.take_length
def xF:=@Option.toList_some
def xG:=@Bool.true_or
def xH:=@Classical.not_not
def xI:=@Nat.le_max_left
def xJ:=@Array.length_toList
def xK:=@List.mem_of_mem_drop
def xL:=@Iff.rfl
def xM:=@List.range'_succ
def xN:=@Nat.not_succ_le_self
def xO:=@Option.isSome_iff_exists
def xP:=@Nat.mul_comm
def xQ:=@Array.size_append
def xR:=@List.getD_eq_getElem?_getD
def xS:=@List.map_set
def xT:=@List.mem_range
def xU:=@List.drop_drop
def xV:=@List.drop_append
def xW:=@List.nodup_append
def xX:=@List.isEmpty_nil
def xY:=@Int.fdiv_eq_ediv_of_nonneg
def xZ:=@List.take_sublist
def aiD:=@List.drop_sublist
def aiE:=@List.filter_eq_self
def aiF:=@List.length_filter_le
def aiG:=@List.any_eq_true
def aiH:=@Nat.lt_of_lt_of_le
def aiI:=@Array.getElem?_modify
def aiJ:=@Array.getElem?_push
def aiK:=@Nat.zero_mul
def aiL:=@Nat.le_of_eq
def aiM:=@List.nodup_cons
def aiN:=@List.map_congr_left
def aiO:=@List.isEmpty_iff
def aiP:=@Bool.eq_false_iff
def aiQ:=@List.all_map
def aiR:=@List.getElem?_eq_none_iff
def aiS:=@List.all_nil
def aiT:=@List.takeWhile_cons
def aiU:=@List.getElem?_set_self
def aiV:=@List.mem_take_iff_getElem
def aiW:=@Nat.mul_le_mul_left
def aiX:=@Bool.false_and
def aiY:=@List.zipIdx_cons
def aiZ:=@Array.foldl_toList
def ai0:=@Array.toList_zipIdx
def ai1:=@List.getElem?_replicate
def ai2:=@Array.getElem?_map
def ai3:=@Array.getElem?_range
def ai4:=@List.length_range
def ai5:=@Array.getElem?_eq_getElem
def ai6:=@List.length_eq_zero_iff
def ai7:=@List.length_eq_one_iff
def ai8:=@List.getElem_of_mem
def ai9:=@List.map_map
def aja:=@Option.isSome_none
def ajb:=@List.exists_mem_of_ne_nil
def ajc:=@List.mem_append_left
def ajd:=@List.cons.injEq
def aje:=@List.mem_range'_1
def ajf:=@Nat.min_self
def ajg:=@List.filter_sublist
def ajh:=@Bool.not_not
def aji:=@List.mem_iff_getElem
def ajj:=@List.mem_cons_of_mem
def ajk:=@List.length_pos_of_mem
def ajl:=@List.append_cancel_left
def ajm:=@Array.eq_empty_of_size_eq_zero
def ajn:=@Array.getElem?_append_right
def ajo:=@Array.ext_getElem?
def ajr:=@Nat.div_lt_of_lt_mul
def ajs:=@Array.getElem?_append_left
def ajt:=@List.getElem?_toArray
def aju:=@Array.getElem?_toList
def ajx:=@List.mem_filterMap
def ajy:=@Array.any_eq_true'
def ajz:=@Option.isNone_iff_eq_none
def ajA:=@Array.getD_eq_getD_getElem?
def ajB:=@Array.getElem?_replicate
def ajC:=@Array.size_replicate
def ajD:=@List.mem_or_eq_of_mem_set
def ajE:=@List.set_append_right
def ajF:=@List.set_cons_zero
def ajG:=@List.take_set_of_le
def ajH:=@List.getElem?_eq_none
def ajI:=@List.isEmpty_eq_false_iff
def ajJ:=@Array.getElem?_append
def ajK:=@Array.getElem?_mapIdx
def ajM:=@List.length_mapIdx
def ajN:=@List.take_succ_cons
def ajO:=@List.take_append_of_le_length
def ajS:=@Nat.lt_or_eq_of_le
def ajT:=@List.find?_eq_none
def ajU:=@List.ne_nil_of_mem
def ajX:=@Nat.lt_of_le_of_ne
def ajY:=@List.length_filter_eq_length_iff
def aj0:=@Int.emod_lt_of_pos
end Go.Abs
namespace Go.Abs
def oZd{p:Prop}(e:p:=by simp;omega):p:=e
def oZe{p:Prop}(e:p:=by simp at h):p:=e
def oZf{p:Prop}(e:p:=by simp_all):p:=e
def oZg{p:Prop}(e:p:=by omega):p:=e
def oZh{p:Prop}(e:p:=by decide):p:=e
def oZi{p:Prop}(e:p:=by grind):p:=e
def oZj{p:Prop}(e:p:=by cases h):p:=e
def oZk{p:Prop}(e:p:=by simp):p:=e
abbrev aq:=List (Nat×Nat)
inductive C where
 | dead
 | val (v:Value)
 | sl (own:Bool) (nl:Option Bool) (es:Nat) (cap:Option Nat) (rows:List (List C))
 | agg (cs:List C)
 | tup (cs:List C)
 | clo (f:Nat) (caps:List C)
 | iref (es:Nat) (rows:List (List C)) (i j:Nat)
 | pref (n:Nat) (p:aq) (i j:Nat)
 | pal (n:Nat) (p:aq) (lo len:Nat) (cap:Option Nat)
 deriving Inhabited
def C.kid:C->Nat×Nat->Option C
 | .sl true _ _ _ rows,s=>(rows[s.1]?).bind (·[s.2]?)
 | .agg cs,s=>if s.1=0 then cs[s.2]? else none
 | .tup cs,s=>if s.1=0 then cs[s.2]? else none
 | _,_=>none
def C.at:C->aq->Option C
 | c,[]=>some c
 | c,s::p=>(c.kid s).bind (·.at p)
def C.turn(f:C->C):C->aq->C
 | c,[]=>f c
 | .sl own nl es cap rows,s::p=>.sl own nl es cap (rows.modify s.1 (·.modify s.2 (C.turn f · p)))
 | .agg cs,s::p=>.agg (cs.modify s.2 (C.turn f · p))
 | .tup cs,s::p=>.tup (cs.modify s.2 (C.turn f · p))
 | c,_=>c
def blk:Value->Option Nat
 | .slice (some a) _ k=>if k=0 then none else some a.block
 | _=>none
def C.isOwn:C->Bool
 | .sl true _ _ _ _=>true
 | _=>false
def B0:Nat:=1000000000
def H7(f:Nat)(arr:Array Value):Value:=if f<B0 then .func (.func f) #[] arr else .func (.func (f-B0)) arr #[]
def N6(f:Nat):Nat:=if f<B0 then f else f-B0
def Kd{α:Type}(f:Nat)(args caps:List α):List α:=if f<B0 then args++caps else caps++args
def Q9(f:Nat):Nat:=if f<B0 then f else f+B0
def afs(f:Nat):H7 (Q9 f) #[]=.func (.func f) #[] #[]:=by
 grind[H7,Q9,B0]
def L0:C->Value->Prop:=fun _ _=>False
def rel(w:World)(S:Nat->Prop)(L:C->Value->Prop)(m:aq->Value):(o:Bool)->Nat->aq->C->Value->Prop
 | _,0,_,_,_=>False
 | o,d+1,p,c,u=>match c with
  | .dead=>True
  | .val v=>u=v
  | .sl own nl es cap rows=>∃a k,u=.slice a rows.length k/\rows.length<=k/\k<=maxLen/\(∀c,cap=some c->k=c)/\((∀b,nl=some b->(b=true↔a=none))/\(a=none->k=0))/\(∀row∈rows,row.length=es)∧
    ((own&&o)=true->u=m p)∧
    (k=0∨((own&&o)=false/\rows=[])∨∃b off arr elem frz,a=some ⟨b,off,none⟩/\w.heap[b]?=some (.cells arr elem frz)∧
     ((own&&o)=false->S b)/\((own&&o)=true->frz=(0,0)/\off+k*es<=arr.size)∧
     ∀i j row c',rows[i]?=some row->row[j]?=some c'->∃u',arr[off+i*es+j]?=some u'/\rel w S L0 m (own&&o) d (p++[(i,j)]) c' u')
  | .agg cs=>∃arr:Array Value,u=.agg arr/\arr.size=cs.length/\∀(j:Nat) (c':C),cs[j]?=some c'->∃u',arr[j]?=some u'/\rel w S L m o d (p++[(0,j)]) c' u'
  | .tup cs=>∃arr:Array Value,u=.tuple arr/\arr.size=cs.length/\∀(j:Nat) (c':C),cs[j]?=some c'->∃u',arr[j]?=some u'/\rel w S L m o d (p++[(0,j)]) c' u'
  | .clo f caps=>∃arr:Array Value,u=H7 f arr/\arr.size=caps.length/\∀(j:Nat) (c':C),caps[j]?=some c'->∃u',arr[j]?=some u'/\rel w S L m false d p c' u'
  | .iref es rows i j=>∃b off arr elem frz,u=.pointer (some ⟨b,off+i*es+j,none⟩)/\w.heap[b]?=some (.cells arr elem frz)/\S b/\(∀row∈rows,row.length=es)∧
     ∀i' j' row c',rows[i']?=some row->row[j']?=some c'->∃u',arr[off+i'*es+j']?=some u'/\rel w S L0 m false d p c' u'
  | .pref ..=>L c u
  | .pal ..=>L c u
theorem aW{w:World}{S:Nat->Prop}{m:aq->Value}:∀(d:Nat) {L:C->Value->Prop} {o:Bool} {p:aq} {c:C} {u:Value} (d':Nat),d<=d'->rel w S L m o d p c u->rel w S L m o d' p c u:=by
 intro d
 induction d with
 | zero=>intro L o p c u d' _ h;exact h.elim
 | succ d ih=>
  intro L o p c u d' hd h;obtain⟨d',rfl⟩:∃k,d'=k+1:=⟨d'-1,oZg⟩;have hd:d<=d':=oZg;cases c with
  | dead=>trivial
  | val v=>exact h
  | sl own nl es cap rows=>
   obtain⟨a,k,h1,h2,h3,h4,hz,h5,h6,h7⟩:=h;refine⟨a,k,h1,h2,h3,h4,hz,h5,h6,?_⟩
   grind
  | agg cs=>obtain⟨arr,h1,h2,h3⟩:=h;exact⟨arr,h1,h2,fun j c' e=>let⟨u',e1,e2⟩:=h3 j c' e;⟨u',e1,ih d' hd e2⟩⟩
  | tup cs=>obtain⟨arr,h1,h2,h3⟩:=h;exact⟨arr,h1,h2,fun j c' e=>let⟨u',e1,e2⟩:=h3 j c' e;⟨u',e1,ih d' hd e2⟩⟩
  | clo f cs=>obtain⟨arr,h1,h2,h3⟩:=h;exact⟨arr,h1,h2,fun j c' e=>let⟨u',e1,e2⟩:=h3 j c' e;⟨u',e1,ih d' hd e2⟩⟩
  | iref es rows i j=>
   obtain⟨b,off,arr,elem,frz,g1,g2,g3,g4,g5⟩:=h;exact⟨b,off,arr,elem,frz,g1,g2,g3,g4,fun i j row c' e1 e2=>let⟨u',e3,e4⟩:=g5 i j row c' e1 e2;⟨u',e3,ih d' hd e4⟩⟩
  | pref n p i j=>exact h
  | pal n p lo len cap=>exact h
def C.ment(f:Nat->aq->Bool):Nat->C->Bool
 | _,.dead=>false
 | _,.val _=>false
 | _,.sl ..=>false
 | _,.iref ..=>false
 | _,.pref n p _ _=>f n p
 | _,.pal n p _ _ _=>f n p
 | 0,_=>true
 | k+1,.agg cs=>cs.any (C.ment f k)
 | k+1,.tup cs=>cs.any (C.ment f k)
 | k+1,.clo _ cs=>cs.any (C.ment f k)
def C.place:C->Option (Nat×aq)
 | .pref n p _ _=>some (n,p)
 | .pal n p _ _ _=>some (n,p)
 | _=>none
def occ:Nat->C->C->Prop
 | 0,_,_=>False
 | d+1,c,v=>match c with
  | .pref ..=>v=c
  | .pal ..=>v=c
  | .agg cs=>∃c'∈cs,occ d c' v
  | .tup cs=>∃c'∈cs,occ d c' v
  | .clo _ cs=>∃c'∈cs,occ d c' v
  | _=>False
theorem jB{f:Nat->aq->Bool}:∀(d k:Nat) (c v:C),c.ment f k=false->occ d c v->∃n p,v.place=some (n,p)/\f n p=false:=by
 intro d
 induction d with
 | zero=>intro k c v _ h;exact h.elim
 | succ d ih=>
  intro k c v hf h;cases c with
  | pref n p i j=>simp only[occ]at h;subst h;exact⟨n,p,rfl,by cases k<;>simpa[C.ment]using hf⟩
  | pal n p lo len cap=>simp only[occ]at h;subst h;exact⟨n,p,rfl,by cases k<;>simpa[C.ment]using hf⟩
  | agg cs=>
   cases k with
   | zero=>grind[C.ment]
   | succ k=>obtain⟨c',hm,ho⟩:=h;simp only[C.ment,xq,xj]at hf;grind
  | tup cs=>
   cases k with
   | zero=>grind[C.ment]
   | succ k=>obtain⟨c',hm,ho⟩:=h;simp only[C.ment,xq,xj]at hf;grind
  | clo g cs=>
   cases k with
   | zero=>grind[C.ment]
   | succ k=>obtain⟨c',hm,ho⟩:=h;simp only[C.ment,xq,xj]at hf;grind
  | dead=>exact h.elim
  | val _=>exact h.elim
  | sl _ _ _ _ _=>exact h.elim
  | iref _ _ _ _=>exact h.elim
def az{w w':World}{S S':Nat->Prop}{m m':aq->Value}(hS:∀b,b<w.heap.size->S b->S' b/\w'.heap[b]?=w.heap[b]?):
  ∀(d:Nat) {L L':C->Value->Prop} {o:Bool} {p p':aq} {c:C} {u:Value},
   (∀v u,occ d c v->L v u->L' v u) ->
   (o=true->∀q b,((c.at q).map C.isOwn)=some true->blk (m (p++q))=some b->b<w.heap.size->w'.heap[b]?=w.heap[b]?) ->
   (o=true->∀q,((c.at q).map C.isOwn)=some true->m' (p'++q)=m (p++q)) ->
   rel w S L m o d p c u->rel w' S' L' m' o d p' c u:=by
 intro d
 induction d with
 | zero=>intro L L' o p p' c u _ _ _ h;exact h.elim
 | succ d ih=>
  intro L L' o p p' c u hL hO hm h;cases c with
  | dead=>trivial
  | val v=>exact h
  | sl own nl es cap rows=>
   obtain⟨a,k,h1,h2,h3,h4,hz,h5,h6,h7⟩:=h;refine⟨a,k,h1,h2,h3,h4,hz,h5,?_,?_⟩
   .intro ho;simp only[cx]at ho;obtain⟨rfl,rfl⟩:=ho;have e:=hm rfl [] (by simp[C.at,C.isOwn])
    simp_all
   .rcases h7 with h7|h7|⟨b,off,arr,elem,frz,g1,g2,g3,g4,g5⟩
    .exact .inl h7
    .simp_all
    .by_cases hk:k=0
     .exact .inl hk
     have hb:b<w.heap.size:=(ng.1 g2).1;refine .inr (.inr ⟨b,off,arr,elem,frz,g1,?_,fun e=>(hS b hb (g3 e)).1,g4,?_⟩)
     .cases ho:(own&&o)with
      | false=>simp_all
      | true=>
       have ho':=ho;simp only[cx]at ho';obtain⟨rfl,rfl⟩:=ho';have e:=h6 rfl;rw[hO rfl [] b (by simp[C.at,C.isOwn]) (by simp_all[blk]) hb];exact g2
     .intro i j row c' e1 e2;obtain⟨u',e3,e4⟩:=g5 i j row c' e1 e2;refine⟨u',e3,ih (fun _ _ _ h=>h.elim) ?_ ?_ e4⟩
      .intro ho q b' hq hbk;simp only[cx]at ho;obtain⟨rfl,rfl⟩:=ho;exact hO rfl ((i,j)::q) b' (by simp_all[C.at,C.kid]) oZf
      .intro ho q hq;simp only[cx]at ho;obtain⟨rfl,rfl⟩:=ho;have:=hm rfl ((i,j)::q) (by simp only[C.at,C.kid,e1,cb,e2];exact hq);simpa using this
  | agg cs=>
   obtain⟨arr,h1,h2,h3⟩:=h;refine⟨arr,h1,h2,fun j c' e=>?_⟩;obtain⟨u',e1,e2⟩:=h3 j c' e;refine⟨u',e1,ih (fun v u hv=>hL v u ⟨c',cd e,hv⟩) ?_ ?_ e2⟩
   .intro ho q b' hq hbk;exact hO ho ((0,j)::q) b' (by simp_all[C.at,C.kid]) oZf
   simp_all[C.at,C.kid]
  | tup cs=>
   obtain⟨arr,h1,h2,h3⟩:=h;refine⟨arr,h1,h2,fun j c' e=>?_⟩;obtain⟨u',e1,e2⟩:=h3 j c' e;refine⟨u',e1,ih (fun v u hv=>hL v u ⟨c',cd e,hv⟩) ?_ ?_ e2⟩
   .intro ho q b' hq hbk;exact hO ho ((0,j)::q) b' (by simp_all[C.at,C.kid]) oZf
   simp_all[C.at,C.kid]
  | clo f cs=>obtain⟨arr,h1,h2,h3⟩:=h;exact⟨arr,h1,h2,fun j c' e=>let⟨u',e1,e2⟩:=h3 j c' e;⟨u',e1,ih (fun v u hv=>hL v u ⟨c',cd e,hv⟩) (fun ho=>by simp at ho) (fun ho=>by simp at ho) e2⟩⟩
  | iref es rows i j=>
   obtain⟨b,off,arr,elem,frz,g1,g2,g3,g4,g5⟩:=h;have hb:b<w.heap.size:=(ng.1 g2).1;exact⟨b,off,arr,elem,frz,g1,oZf,(hS b hb g3).1,g4,fun i j row c' e1 e2=>let⟨u',e3,e4⟩:=g5 i j row c' e1 e2;⟨u',e3,ih (fun _ _ _ h=>h.elim) (fun ho=>by simp at ho) (fun ho=>by simp at ho) e4⟩⟩
  | pref n p i j=>exact hL _ _ rfl h
  | pal n p lo len cap=>exact hL _ _ rfl h
end Go.Abs
namespace Go.Abs
structure St where
 tmps:List C
 roots:Nat->C
def ak(c:C)(q:aq):Prop:=((c.at q).map C.isOwn)=some true
def aJ(R:Nat->C)(m:Nat->aq->Value)(b:Nat):Prop:=∃n p,ak (R n) p/\blk (m n p)=some b
structure Ctx where
 w0:World
 S0:Nat->Prop
 K:Nat->Prop
 kS:∀b,K b->S0 b
def Ctx.S(X:Ctx)(R:Nat->C)(m:Nat->aq->Value)(b:Nat):Prop:=(X.S0 b∨X.w0.heap.size<=b)/\¬aJ R m b
def Lv(R:Nat->C)(m:Nat->aq->Value):C->Value->Prop
 | .pref n p i j,u=>∃nl es cap rows b off k,(R n).at p=some (.sl true nl es cap rows)/\m n p=.slice (some ⟨b,off,none⟩) rows.length k/\u=.pointer (some ⟨b,off+i*es+j,none⟩)
 | .pal n p lo len cap,u=>∃nl es cap' rows a k a' k',(R n).at p=some (.sl true nl es cap' rows)/\m n p=.slice a rows.length k/\lo+len<=rows.length/\u=.slice a' len k'/\len<=k'/\lo+k'<=k ∧
   (∀c,cap=some c->k'=c)/\(cap=none->lo+k'=k)/\(k'=0∨∃b off,a=some ⟨b,off,none⟩/\a'=some ⟨b,off+lo*es,none⟩)
 | _,_=>False
def F2(w:World)(S K:Nat->Prop):Ctx:={w0:=w,S0:=fun b=>S b∨K b,K:=K,kS:=fun _ h=>.inr h}
structure Fr (X:Ctx) (w:World):Prop where
 os:w.os=X.w0.os
 tape:w.tape=X.w0.tape
 output:w.output=X.w0.output
 drawn:X.w0.drawn<=w.drawn
 size:X.w0.heap.size<=w.heap.size
 block:∀b,b<X.w0.heap.size->¬X.K b->w.heap[b]?=X.w0.heap[b]?
def dm:aq->Value:=fun _=>undef
structure av (X:Ctx) (m:Nat->aq->Value) (st:St) (a:Act) (w:World):Prop where
 len:a.tmps.size=st.tmps.length
 tmp:∀(t:Nat) (c:C),st.tmps[t]?=some c->∃u d,a.tmps[t]?=some u/\rel w (X.S st.roots m) (Lv st.roots m) dm false d [] c u
 root:∀n,∃u d,rel w (X.S st.roots m) L0 (m n) true d [] (st.roots n) u
 inj:∀n p n' p' b,ak (st.roots n) p->ak (st.roots n') p'->blk (m n p)=some b->blk (m n' p')=some b->n=n'/\p=p'
 own:∀n p b,ak (st.roots n) p->blk (m n p)=some b->X.w0.heap.size<=b∨X.K b
 fr:Fr X w
 df:a.defers=[]
def Inv(X:Ctx)(st:St)(a:Act)(w:World):Prop:=∃m,av X m st a w
theorem bY{w:World}{S:Nat->Prop}{m m':aq->Value}{d:Nat}{L:C->Value->Prop}{p p':aq}{c:C}{u:Value}(h:rel w S L m false d p c u):rel w S L m' false d p' c u:=
 az (fun _ _ h=>⟨h,rfl⟩) d (fun _ _ _ h=>h) (fun h=>by simp at h) (fun h=>by simp at h) h
def St.put(st:St)(d:Option Tmp)(c:C):St:=match d with|some d=>{st with tmps:=st.tmps.set d c}|none=>st
def av.put{X:Ctx}{m:Nat->aq->Value}{st:St}{a:Act}{w:World}(h:av X m st a w)(d:Option Tmp){c:C}{u:Value}{k:Nat}
  (hr:rel w (X.S st.roots m) (Lv st.roots m) dm false k [] c u):av X m (st.put d c) (a.put d u) w:=by
 cases d with
 | none=>exact h
 | some d=>
  refine⟨by simp[St.put,Act.put,h.len],?_,h.root,h.inj,h.own,h.fr,h.df⟩;intro t c' ht;simp only[St.put,nO]at ht;split at ht
  .rename_i e;subst e;split at ht
   .rename_i hl;simp only[cc]at ht;subst ht;exact⟨u,k,by simp[Act.put,h.len,hl],hr⟩
   .simp at ht
  .rename_i e;obtain⟨u',d',h1,h2⟩:=h.tmp t c' ht;exact⟨u',d',by simp[Act.put,e,h1],h2⟩
def av.forget{X:Ctx}{m:Nat->aq->Value}{st:St}{a:Act}{w:World}(h:av X m st a w)(ts:List C)(hl:ts.length=st.tmps.length)
  (ht:∀(t:Nat) (c:C),ts[t]?=some c->c=.dead∨st.tmps[t]?=some c):av X m {st with tmps:=ts} a w:=by
 refine⟨by simp[h.len,hl],?_,h.root,h.inj,h.own,h.fr,h.df⟩;intro t c hc;rcases ht t c hc with rfl|h1
 .have:t<a.tmps.size:=by rw[h.len,<-hl];exact(cg.1 hc).1
  exact⟨a.tmps[t],1,by simp[this],trivial⟩
 .exact h.tmp t c h1
def poi(f:Nat->aq->Bool)(c:C):C:=if c.ment f 3 then .dead else c
theorem ld(f:Nat->aq->Bool)(c:C):poi f c=.dead∨(poi f c=c/\c.ment f 3=false):=by
 unfold poi;cases h:c.ment f 3
 .right;simp
 .left;simp
def ph:aq->aq->Bool
 | [],_=>true
 | _::_,[]=>false
 |(_,j)::q,(_,j')::p=>j == j'&&ph q p
theorem JN(q r:aq):ph q (q++r)=true:=by
 induction q with
 | nil=>rfl
 | cons x q ih=>simp[ph,ih]
theorem C.at_append(c:C)(p q:aq):c.at (p++q)=(c.at p).bind (·.at q):=by
 induction p generalizing c with
 | nil=>simp[C.at]
 | cons s p ih=>
  simp only[nF,C.at];cases h:c.kid s with
  | none=>simp
  | some c'=>simp[ih]
def C.kid_turn_self(f:C->C)(c:C)(s:Nat×Nat)(q:aq)(c':C)(h:c.kid s=some c'):(c.turn f (s::q)).kid s=some (c'.turn f q):=by
 obtain⟨i,j⟩:=s;cases c with
 | sl own nl es cap rows=>
  cases own with
  | false=>simp[C.kid]at h
  | true=>
   simp only[C.kid]at h ⊢;simp only[C.turn]
   grind
 | agg cs=>simp only[C.kid]at h;simp only[C.turn,C.kid];split at h<;>simp_all
 | tup cs=>simp only[C.kid]at h;simp only[C.turn,C.kid];split at h<;>simp_all
 | _=>simp[C.kid]at h
theorem C.kid_turn_ne(f:C->C)(c:C)(s s':Nat×Nat)(q:aq)(hs:s≠s')(h0:(∃cs,c=.agg cs)∨(∃cs,c=.tup cs)->s.1=0):(c.turn f (s::q)).kid s'=c.kid s':=by
 obtain⟨i,j⟩:=s;obtain⟨i',j'⟩:=s';cases c with
 | sl own nl es cap rows=>
  cases own with
  | false=>simp[C.turn,C.kid]
  | true=>
   grind[C.turn,C.kid]
 | agg cs=>
  have:=h0 (.inl ⟨cs,rfl⟩);simp only at this;subst this;simp only[C.turn,C.kid];split
  .rename_i e;subst e;have hj:j≠j':=fun e=>hs (by rw[e]);simp[hj]
  .rfl
 | tup cs=>
  have:=h0 (.inr ⟨cs,rfl⟩);simp only at this;subst this;simp only[C.turn,C.kid];split
  .rename_i e;subst e;have hj:j≠j':=fun e=>hs (by rw[e]);simp[hj]
  .rfl
 | _=>simp[C.turn]
def C.at_turn_self(f:C->C):∀(q r:aq) (c c':C),c.at q=some c'->(c.turn f q).at (q++r)=(f c').at r:=by
 intro q
 induction q with
 | nil=>intro r c c' h;simp only[C.at,cc]at h;subst h;simp[C.turn]
 | cons s q ih=>
  intro r c c' h;simp only[C.at]at h;cases hk:c.kid s with
  | none=>simp[hk]at h
  | some c1=>
   simp only[hk,cb]at h
   simp_all[C.at,C.kid_turn_self]
theorem C.kid_zero{c c':C}{s:Nat×Nat}(h:c.kid s=some c'):(∃cs,c=.agg cs)∨(∃cs,c=.tup cs)->s.1=0:=by
 rintro(⟨cs,rfl⟩|⟨cs,rfl⟩)<;>simp only[C.kid]at h<;>split at h<;>simp_all
def C.at_turn_off(f:C->C):∀(q p:aq) (c c' x:C),c.at q=some c'->(∀r,p≠q++r)->c.at p=some x ->
  ∃x',(c.turn f q).at p=some x'/\x'.isOwn=x.isOwn/\∀nl es cap rows,x=.sl true nl es cap rows->∃rows',x'=.sl true nl es cap rows'/\rows'.length=rows.length:=by
 intro q
 induction q with
 | nil=>intro p c c' x _ h2 _;exact absurd rfl (h2 p)
 | cons s q ih=>
  intro p c c' x h1 h2 h3;simp only[C.at]at h1;cases hk:c.kid s with
  | none=>simp[hk]at h1
  | some c1=>
   simp only[hk,cb]at h1;cases p with
   | nil=>
    simp only[C.at,cc]at h3;subst h3;refine⟨_,rfl,?_,?_⟩
    .cases c<;>first|rfl|(rename_i o _ _ _ _;cases o<;>rfl)
    .intro nl es cap rows e;subst e;exact⟨_,rfl,oZk⟩
   | cons s' p=>
    by_cases hs:s=s'
    .subst hs;simp only[C.at,hk,cb]at h3;obtain⟨x',e1,e2⟩:=ih p c1 c' x h1 (fun r e=>h2 r (by rw[e];rfl)) h3;exact⟨x',by simp only[C.at,C.kid_turn_self f c s q c1 hk,cb];exact e1,e2⟩
    .refine⟨x,?_,rfl,fun nl es cap rows e=>⟨rows,e,rfl⟩⟩
     grind[C.at,C.kid_turn_ne,C.kid_zero]
def ak.of_turn{f:C->C}:∀{q p:aq} {c c':C},c.at q=some c'->ak (c.turn f q) p->(∃r,p=q++r/\ak (f c') r)∨((∀r,p≠q++r)/\ak c p):=by
 intro q
 induction q with
 | nil=>intro p c c' h1 h2;simp only[C.at,cc]at h1;subst h1;exact .inl ⟨p,rfl,by simpa[C.turn]using h2⟩
 | cons s q ih=>
  intro p c c' h1 h2;simp only[C.at]at h1;cases hk:c.kid s with
  | none=>simp[hk]at h1
  | some c1=>
   simp only[hk,cb]at h1;cases p with
   | nil=>
    refine .inr ⟨fun r e=>by simp at e,?_⟩;unfold ak at h2 ⊢;simp only[C.at,cI,cc]at h2 ⊢;rw[<-h2];cases c<;>first|rfl|(rename_i o _ _ _ _;cases o<;>rfl)
   | cons s' p=>
    by_cases hs:s=s'
    .subst hs;have h2':ak (c1.turn f q) p:=by
      simp_all[ak,C.at,C.kid_turn_self]
     rcases ih h1 h2' with⟨r,e1,e2⟩|⟨e1,e2⟩
     .exact .inl ⟨r,by rw[e1];rfl,e2⟩
     simp_all[ak,C.at]
    grind[ak,C.at,C.kid_turn_ne,C.kid_zero]
def A8{w:World}{S:Nat->Prop}{m:aq->Value}:∀(q:aq) {d:Nat} {p:aq} {c c':C} {u:Value},rel w S L0 m true d p c u->c.at q=some c' ->
  ∃u' d',rel w S L0 m true d' (p++q) c' u':=by
 intro q
 induction q with
 | nil=>grind[C.at]
 | cons s q ih=>
  intro d p c c' u h e;simp only[C.at]at e;cases hk:c.kid s with
  | none=>simp[hk]at e
  | some c1=>
   simp only[hk,cb]at e;obtain⟨i,j⟩:=s;have step:∃u' d',rel w S L0 m true d' (p++[(i,j)]) c1 u':=by
    cases d with
    | zero=>exact h.elim
    | succ d=>
     cases c with
     | sl own nl es cap rows=>
      cases own with
      | false=>simp[C.kid]at hk
      | true=>
       simp only[C.kid]at hk;cases hr:rows[i]? with
       | none=>simp[hr]at hk
       | some row=>
        simp only[hr,cb]at hk;obtain⟨a,k,h1,h2,h3,h4,hz,h5,h6,h7⟩:=h
        grind
     | agg cs=>
      simp only[C.kid]at hk;split at hk
      .rename_i e0;obtain rfl:i=0:=e0;obtain⟨arr,h1,h2,h3⟩:=h
       grind
      .simp at hk
     | tup cs=>
      simp only[C.kid]at hk;split at hk
      .rename_i e0;obtain rfl:i=0:=e0;obtain⟨arr,h1,h2,h3⟩:=h
       grind
      .simp at hk
     | _=>simp[C.kid]at hk
   grind
theorem ei{w:World}{S:Nat->Prop}{m:aq->Value}{L:C->Value->Prop}{d:Nat}{p:aq}{nl:Option Bool}{es:Nat}{cap:Option Nat}{rows:List (List C)}{u:Value}
  (h:rel w S L m true d p (.sl true nl es cap rows) u):∃a k d',u=m p/\m p=.slice a rows.length k/\rows.length<=k/\k<=maxLen/\(∀c,cap=some c->k=c)/\((∀b,nl=some b->(b=true↔a=none))/\(a=none->k=0))/\(∀row∈rows,row.length=es)∧
   (k=0∨∃b off arr elem,a=some ⟨b,off,none⟩/\w.heap[b]?=some (.cells arr elem (0,0))/\off+k*es<=arr.size ∧
     ∀(i j:Nat) (row:List C) (c':C),rows[i]?=some row->row[j]?=some c'->∃u',arr[off+i*es+j]?=some u'/\rel w S L0 m true d' (p++[(i,j)]) c' u'):=by
 cases d with
 | zero=>exact h.elim
 | succ d=>
  obtain⟨a,k,h1,h2,h3,h4,hz,h5,h6,h7⟩:=h;have e:=h6 rfl;refine⟨a,k,d,e,by rw[<-e];exact h1,h2,h3,h4,hz,h5,?_⟩
  grind
def qt{w:World}{S:Nat->Prop}{m:aq->Value}{L:C->Value->Prop}{d:Nat}{p:aq}{nl:Option Bool}{es:Nat}{cap:Option Nat}{rows:List (List C)}{a:Option Addr}{k:Nat}
  (h1:m p=.slice a rows.length k) (h2:rows.length<=k) (h3:k<=maxLen) (h4:∀c,cap=some c->k=c) (hz:(∀b,nl=some b->(b=true↔a=none))/\(a=none->k=0)) (h5:∀row∈rows,row.length=es)
  (h7:k=0∨∃b off arr elem,a=some ⟨b,off,none⟩/\w.heap[b]?=some (.cells arr elem (0,0))/\off+k*es<=arr.size ∧
     ∀(i j:Nat) (row:List C) (c':C),rows[i]?=some row->row[j]?=some c'->∃u',arr[off+i*es+j]?=some u'/\rel w S L0 m true d (p++[(i,j)]) c' u'):
  rel w S L m true (d+1) p (.sl true nl es cap rows) (m p):=by
 refine⟨a,k,h1,h2,h3,h4,hz,h5,fun _=>rfl,?_⟩
 grind
end Go.Abs
namespace Go.Abs
def afi{es off i j i' j':Nat}(hj:j<es)(hj':j'<es)(h:(i',j')≠(i,j)):off+i'*es+j'≠off+i*es+j:=by
 grind[Nat.mul_comm,Nat.mul_add_div,Nat.div_eq_of_lt]
theorem Rq{α:Type}(l:List α)(i j:Nat)(f:α->α):(l.modify i f)[j]?=if i=j then(l[j]?).map f else l[j]?:=by
 grind
def Fi{w w':World}{S S':Nat->Prop}{m m':aq->Value}{f:C->C}(hS:∀b,b<w.heap.size->S b->S' b/\w'.heap[b]?=w.heap[b]?):
  ∀(q:aq) {d:Nat} {p:aq} {c c0:C} {u:Value},rel w S L0 m true d p c u->c.at q=some c0 ->
   (∀q1 b,ak c q1->(∀r,q1≠q++r)->blk (m (p++q1))=some b->b<w.heap.size->w'.heap[b]?=w.heap[b]?) ->
   (∀q1,ak c q1->(∀r,q1≠q++r)->m' (p++q1)=m (p++q1)) ->
   (∀u0 d0,rel w S L0 m true d0 (p++q) c0 u0->∃d1,rel w' S' L0 m' true d1 (p++q) (f c0) u0) ->
   ∃d',rel w' S' L0 m' true d' p (c.turn f q) u:=by
 intro q
 induction q with
 | nil=>
  grind[C.at,C.turn]
 | cons s q ih=>
  intro d p c c0 u h e hO hm hf;obtain⟨i,j⟩:=s;simp only[C.at]at e;cases hk:c.kid (i,j)with
  | none=>simp_all
  | some c1=>
   simp only[hk,cb]at e;have onpath:∀{u1:Value} {d1:Nat},rel w S L0 m true d1 (p++[(i,j)]) c1 u1->∃d',rel w' S' L0 m' true d' (p++[(i,j)]) (c1.turn f q) u1:=by
    intro u1 d1 h1;refine ih h1 e ?_ ?_ ?_
    .grind[ak,C.at]
    .simp_all[ak,C.at]
    grind
   have offpath:∀{s:Nat×Nat} {c2:C} {u2:Value} {d2:Nat},s≠(i,j)->c.kid s=some c2->rel w S L0 m true d2 (p++[s]) c2 u2->rel w' S' L0 m' true d2 (p++[s]) c2 u2:=by
    intro s c2 u2 d2 hs hks h2;refine az hS d2 (fun _ _ _ h=>h) ?_ ?_ h2
    .grind[ak,C.at]
    simp_all[ak,C.at]
   cases d with
   | zero=>exact h.elim
   | succ d=>
    cases c with
    | sl own nl es cap rows=>
     cases own with
     | false=>grind[C.kid]
     | true=>
      obtain⟨a,k,dd,hu,h1,h2,h3,h4,hz,h5,h7⟩:=ei h;have hk':=hk;simp only[C.kid]at hk';cases hr:rows[i]? with
      | none=>simp_all
      | some row=>
       simp only[hr,cb]at hk';rcases h7 with h7|⟨b,off,arr,elem,g1,g2,g4,g5⟩
       .simp_all
       .have hk0:k≠0:=by
         grind
        have hown0:ak (.sl true nl es cap rows) []:=by simp[ak,C.at,C.isOwn]
        have hne0:∀r,([]:aq)≠(i,j)::q++r:=oZf;have hblt:b<w.heap.size:=(ng.1 g2).1;have hb:w'.heap[b]?=w.heap[b]?:=hO [] b hown0 hne0 (by simp_all[blk]) hblt;have hm0:=hm [] hown0 hne0;simp only[nn]at hm0;obtain⟨u1,e1,r1⟩:=g5 i j row c1 hr hk';obtain⟨d1,r1'⟩:=onpath r1;refine⟨max dd d1+1,?_⟩;rw[hu,<-hm0];refine qt (a:=a) (k:=k) oZf oZf h3 h4 hz ?_ (.inr ⟨b,off,arr,elem,g1,oZf,g4,?_⟩)
        .grind[List.getElem?_of_mem]
        .intro i' j' row' c' e2 e3;rw[Rq]at e2;by_cases hi:i=i'
         .subst hi;simp only[if_true,hr,cI,cc]at e2;subst e2;rw[Rq]at e3;by_cases hj:j=j'
          .subst hj;simp only[if_true,hk',cI,cc]at e3
           grind[aW,Nat.le_max_right]
          .simp only[hj,if_false]at e3
           grind[aW,Nat.le_max_left,C.kid]
         .simp only[hi,if_false]at e2
          grind[aW,Nat.le_max_left,C.kid]
    | agg cs=>
     have h0:=C.kid_zero hk (.inl ⟨cs,rfl⟩);obtain rfl:i=0:=h0;have hk':cs[j]?=some c1:=by simp_all[C.kid]
     obtain⟨arr,h1,h2,h3⟩:=h;obtain⟨u1,e1,r1⟩:=h3 j c1 hk';obtain⟨d1,r1'⟩:=onpath r1;refine⟨max d d1+1,arr,h1,oZf,?_⟩;intro j' c' e2;rw[Rq]at e2;by_cases hj:j=j'
     .subst hj;simp only[if_true,hk',cI,cc]at e2
      grind[aW,Nat.le_max_right]
     .simp only[hj,if_false]at e2
      grind[aW,Nat.le_max_left,C.kid]
    | tup cs=>
     have h0:=C.kid_zero hk (.inr ⟨cs,rfl⟩);obtain rfl:i=0:=h0;have hk':cs[j]?=some c1:=by simp_all[C.kid]
     obtain⟨arr,h1,h2,h3⟩:=h;obtain⟨u1,e1,r1⟩:=h3 j c1 hk';obtain⟨d1,r1'⟩:=onpath r1;refine⟨max d d1+1,arr,h1,oZf,?_⟩;intro j' c' e2;rw[Rq]at e2;by_cases hj:j=j'
     .subst hj;simp only[if_true,hk',cI,cc]at e2
      grind[aW,Nat.le_max_right]
     .simp only[hj,if_false]at e2
      grind[aW,Nat.le_max_left,C.kid]
    | _=>grind[C.kid]
end Go.Abs
namespace Go.Abs
def upd(R:Nat->C)(n:Nat)(c:C):Nat->C:=fun k=>if k=n then c else R k
theorem aI(R:Nat->C)(n:Nat)(c:C):upd R n c n=c:=by simp[upd]
theorem aV{R:Nat->C}{n k:Nat}{c:C}(h:k≠n):upd R n c k=R k:=by simp[upd,h]
theorem aY{q:aq}:¬ak .dead q:=by
 cases q with
 | nil=>simp[ak,C.at,C.isOwn]
 | cons s q=>simp[ak,C.at,C.kid]
structure eL (X:Ctx) (m:Nat->aq->Value) (st:St) (w:World) (m':Nat->aq->Value) (st':St) (w':World) (ch:List Nat):Prop where
 len:st'.tmps.length=st.tmps.length
 tmps:∀(t:Nat) (c:C),st'.tmps[t]?=some c->c=.dead∨(st.tmps[t]?=some c/\∀v u d,occ d c v->Lv st.roots m v u->Lv st'.roots m' v u)
 heap:∀b,b<w.heap.size->¬aJ st.roots m b->w'.heap[b]?=w.heap[b]?
 size:w.heap.size<=w'.heap.size
 org:∃(org:Nat->aq->Nat×aq) (fresh:Option (Nat×aq)),
  (∀n p b,ak (st'.roots n) p->blk (m' n p)=some b->(fresh=some (n,p)/\w.heap.size<=b)∨(fresh≠some (n,p)/\ak (st.roots (org n p).1) (org n p).2/\blk (m (org n p).1 (org n p).2)=some b/\b<w.heap.size))∧
  (∀n p n' p',ak (st'.roots n) p->ak (st'.roots n') p'->fresh≠some (n,p)->fresh≠some (n',p')->org n p=org n' p'->n=n'/\p=p')
 keep:∀n,n∉ch->st'.roots n=st.roots n/\(∀q,ak (st.roots n) q->m' n q=m n q)/\(∀q b,ak (st.roots n) q->blk (m n q)=some b->b<w.heap.size->w'.heap[b]?=w.heap[b]?)
 roots:(∀b,b<w.heap.size->X.S st.roots m b->X.S st'.roots m' b/\w'.heap[b]?=w.heap[b]?)->∀n,n∈ch->∃u d,rel w' (X.S st'.roots m') L0 (m' n) true d [] (st'.roots n) u
 os:w'.os=w.os
 tape:w'.tape=w.tape
 output:w'.output=w.output
 drawn:w.drawn<=w'.drawn
def eL.S{X:Ctx}{m m':Nat->aq->Value}{st st':St}{w w':World}{ch:List Nat}(s:eL X m st w m' st' w' ch):∀b,b<w.heap.size->X.S st.roots m b->X.S st'.roots m' b/\w'.heap[b]?=w.heap[b]?:=by
 intro b hlt hs;obtain⟨org,fresh,hb,_⟩:=s.org;refine⟨⟨hs.1,?_⟩,s.heap b hlt hs.2⟩;rintro⟨n,p,ho,hbk⟩;rcases hb n p b ho hbk with⟨_,hge⟩|⟨_,ho',hbk',_⟩
 .omega
 .exact hs.2 ⟨_,_,ho',hbk'⟩
def SZ(X:Ctx)(m:Nat->aq->Value)(st:St)(w:World)(m':Nat->aq->Value)(st':St)(w':World)(n:Nat):Prop:=
 st'.roots n=st.roots n/\(∀q,ak (st.roots n) q->m' n q=m n q)/\∀u d,rel w (X.S st.roots m) L0 (m n) true d [] (st.roots n) u->rel w' (X.S st'.roots m') L0 (m' n) true d [] (st'.roots n) u
def eL.keeps{X:Ctx}{m m':Nat->aq->Value}{st st':St}{w w':World}{ch:List Nat}(s:eL X m st w m' st' w' ch){n:Nat}(hn:n∉ch):SZ X m st w m' st' w' n:=by
 obtain⟨e,hm,hO⟩:=s.keep n hn;refine⟨e,hm,fun u d hr=>?_⟩;rw[e];exact az s.S d (fun _ _ _ h=>h) (fun _ q b ho hbk hlt=>hO q b ho oZf hlt) (fun _ q ho=>by simpa using hm q ho) hr
def av.go{X:Ctx}{m m':Nat->aq->Value}{st st':St}{a:Act}{w w':World}{ch:List Nat}(h:av X m st a w)(s:eL X m st w m' st' w' ch):av X m' st' a w':=by
 obtain⟨org,fresh,hb,hi⟩:=s.org;have hS:∀b,b<w.heap.size->X.S st.roots m b->X.S st'.roots m' b/\w'.heap[b]?=w.heap[b]?:=by
  intro b hlt hs;refine⟨⟨hs.1,?_⟩,s.heap b hlt hs.2⟩;rintro⟨n,p,ho,hbk⟩;rcases hb n p b ho hbk with⟨_,hge⟩|⟨_,ho',hbk',_⟩
  .omega
  .exact hs.2 ⟨_,_,ho',hbk'⟩
 refine⟨by rw[h.len,s.len],?_,?_,?_,?_,?_,h.df⟩
 .intro t c ht;rcases s.tmps t c ht with rfl|⟨h1,hv⟩
  .have:t<a.tmps.size:=by rw[h.len,<-s.len];grind
   exact⟨a.tmps[t],1,by simp[this],trivial⟩
  .obtain⟨u,d,e1,e2⟩:=h.tmp t c h1;exact⟨u,d,e1,az hS d (fun v u' ho hl=>hv v u' d ho hl) (fun h=>by simp at h) (fun h=>by simp at h) e2⟩
 .intro n;by_cases hn:n∈ch
  .exact s.roots hS n hn
  .obtain⟨u,d,hr⟩:=h.root n;exact⟨u,d,(s.keeps hn).2.2 u d hr⟩
 .intro n p n' p' b ho ho' hbk hbk';rcases hb n p b ho hbk with⟨hf,hge⟩|⟨hf,h1,h2,h3⟩<;>rcases hb n' p' b ho' hbk' with⟨hf',hge'⟩|⟨hf',h1',h2',h3'⟩
  .simp_all
  .omega
  .omega
  .have:=h.inj _ _ _ _ b h1 h1' h2 h2'
   grind
 .intro n p b ho hbk;rcases hb n p b ho hbk with⟨hf,hge⟩|⟨hf,h1,h2,h3⟩
  .exact .inl (nq h.fr.size hge)
  .exact h.own _ _ b h1 h2
 .refine⟨s.os.trans h.fr.os,s.tape.trans h.fr.tape,s.output.trans h.fr.output,nq h.fr.drawn s.drawn,nq h.fr.size s.size,?_⟩;intro b hlt hk;have hlt':b<w.heap.size:=aiH hlt h.fr.size;rw[s.heap b hlt' ?_]
  .exact h.fr.block b hlt hk
  .rintro⟨n,p,ho,hbk⟩;rcases h.own n p b ho hbk with h1|h1
   .omega
   simp_all
def av.lt{X:Ctx}{m:Nat->aq->Value}{st:St}{a:Act}{w:World}(h:av X m st a w){n:Nat}{p:aq}{b:Nat}(ho:ak (st.roots n) p)(hb:blk (m n p)=some b):b<w.heap.size:=by
 obtain⟨u,d,hr⟩:=h.root n;unfold ak at ho;cases hc:(st.roots n).at p with
 | none=>simp_all
 | some c=>
  obtain⟨u',d',hr'⟩:=A8 p hr hc;simp only[hc,cI,cc]at ho;cases c with
  | sl own nl es cap rows=>
   cases own with
   | false=>grind[C.isOwn]
   | true=>
    obtain⟨a,k,dd,hu,h1,h2,h3,h4,hz,h5,h7⟩:=ei hr';simp only[cO]at h1;rw[h1]at hb;rcases h7 with h7|⟨b',off,arr,elem,g1,g2,g4,g5⟩
    .cases a<;>simp[blk,h7]at hb
    grind[blk]
  | _=>simp[C.isOwn]at ho
def mn{R R':Nat->C}{m m':Nat->aq->Value}{v:C}{u:Value}{n:Nat}{p:aq}(hp:v.place=some (n,p))(hm:m' n p=m n p)
  (hR:∀nl es cap rows,(R n).at p=some (.sl true nl es cap rows)->∃cap' rows',(R' n).at p=some (.sl true nl es cap' rows')/\rows'.length=rows.length) (h:Lv R m v u):Lv R' m' v u:=by
 cases v with
 | pref n' p' i j=>
  simp only[C.place,cc,cP]at hp;obtain⟨rfl,rfl⟩:=hp;obtain⟨nl,es,cap,rows,b,off,k,h1,h2,h3⟩:=h;obtain⟨cap',rows',h4,h5⟩:=hR nl es cap rows h1;exact⟨nl,es,cap',rows',b,off,k,h4,oZf,h3⟩
 | pal n' p' lo len cap=>
  simp only[C.place,cc,cP]at hp;obtain⟨rfl,rfl⟩:=hp;obtain⟨nl,es,cap',rows,a,k,a',k',h1,h2,h3,h4⟩:=h;obtain⟨cap'',rows',h5,h6⟩:=hR nl es cap' rows h1;exact⟨nl,es,cap'',rows',a,k,a',k',h5,oZf,oZg,h4⟩
 | _=>simp[C.place]at hp
def Ff{f:Nat->aq->Bool}{R R':Nat->C}{m m':Nat->aq->Value}{ts:List C}
  (hv:∀v u n p,v.place=some (n,p)->f n p=false->Lv R m v u->Lv R' m' v u):
  ∀(t:Nat) (c:C),(ts.map (poi f))[t]?=some c->c=.dead∨(ts[t]?=some c/\∀v u d,occ d c v->Lv R m v u->Lv R' m' v u):=by
 intro t c hc;simp only[cz,cq]at hc;obtain⟨c0,h0,rfl⟩:=hc
 grind[ld,jB]
def St.drop(st:St)(n:Nat):St:={tmps:=st.tmps.map (poi fun n' _=>n' == n),roots:=upd st.roots n .dead}
def av.drop{X:Ctx}{m:Nat->aq->Value}{st:St}{a:Act}{w:World}(h:av X m st a w)(n:Nat):av X m (st.drop n) a w:=by
 refine h.go (ch:=[n]) ⟨by simp[St.drop],?_,fun _ _ _=>rfl,ck _,⟨fun n p=>(n,p),none,?_,?_⟩,?_,?_,rfl,rfl,rfl,ck _⟩
 .refine Ff fun v u n' p hp hf hl=>mn hp rfl ?_ hl;intro nl es cap rows he;have:n'≠n:=oZf;exact⟨cap,rows,by simp_all[St.drop,aV],rfl⟩
 .intro n' p b ho hb;by_cases e:n'=n
  .simp_all[St.drop,aI,aY]
  .simp only[St.drop,aV e]at ho;exact .inr ⟨oZk,ho,hb,h.lt ho hb⟩
 .simp_all
 .intro n' e;have e:n'≠n:=by simpa using e
  exact⟨by simp[St.drop,aV e],fun _ _=>rfl,fun _ _ _ _ _=>rfl⟩
 .intro hS n' e;obtain rfl:n'=n:=by simpa using e
  exact⟨undef,1,by simp[St.drop,aI,rel]⟩
def C.frz:C->C
 | .sl _ nl es cap rows=>.sl false nl es cap rows
 | c=>c
def C.cellOk:C->Bool
 | .dead=>false
 | .val v=>v.oneCell'
 | .sl ..=>true
 | .iref ..=>true
 | .clo _ cs=>cs.all fun c=>match c with|.val _|.sl ..|.iref ..=>true|_=>false
 | _=>false
def qM{c:C}(hc:c.cellOk=true){q:aq}:¬ak c.frz q:=by
 cases c<;>(try simp[C.cellOk]at hc)<;>cases q<;>simp[ak,C.at,C.kid,C.frz,C.isOwn]
theorem FC{w:World}{S:Nat->Prop}{L:C->Value->Prop}{m m':aq->Value}{d:Nat}{p p':aq}{c:C}{u:Value}(hc:c.cellOk=true)(h:rel w S L m false d p c u):rel w S L0 m' true d p' c.frz u:=by
 cases d with
 | zero=>exact h.elim
 | succ d=>
  cases c with
  | dead=>trivial
  | val v=>exact h
  | sl own nl es cap rows=>
   obtain⟨a,k,h1,h2,h3,h4,hz,h5,h6,h7⟩:=h;refine⟨a,k,h1,h2,h3,h4,hz,h5,oZk,?_⟩;rcases h7 with h7|h7|⟨b,off,arr,elem,frz,g1,g2,g3,g4,g5⟩
   .exact .inl h7
   .simp_all
   .refine .inr (.inr ⟨b,off,arr,elem,frz,g1,g2,fun _=>g3 oZk,oZk,fun i j row c' e1 e2=>?_⟩);obtain⟨u',e3,e4⟩:=g5 i j row c' e1 e2;simp only[nX]at e4
    grind[bY]
  | iref es rows i j=>
   obtain⟨b,off,arr,elem,frz,g1,g2,g3,g4,g5⟩:=h;exact⟨b,off,arr,elem,frz,g1,g2,g3,g4,fun i j row c' e1 e2=>let⟨u',e3,e4⟩:=g5 i j row c' e1 e2;⟨u',e3,bY e4⟩⟩
  | clo f cs=>
   obtain⟨arr,h1,h2,h3⟩:=h;refine⟨arr,h1,h2,fun j c' e=>?_⟩;obtain⟨u',e1,e2⟩:=h3 j c' e;refine⟨u',e1,?_⟩;simp only[C.cellOk,cE]at hc;have:=hc c' (cd e);refine az (fun _ _ h=>⟨h,rfl⟩) d (L:=L) ?_ (fun h=>by simp at h) (fun h=>by simp at h) e2;intro v u ho hl;cases d with
   | zero=>exact ho.elim
   | succ d=>cases c'<;>simp at this<;>exact ho.elim
  | agg cs=>grind[C.cellOk]
  | tup cs=>grind[C.cellOk]
  | pref n q i j=>grind[C.cellOk]
  | pal n q lo len cap=>grind[C.cellOk]
def av.hand{X:Ctx}{m:Nat->aq->Value}{st:St}{a:Act}{w:World}(h:av X m st a w){n:Nat}(hd:st.roots n=.dead){c:C}(hc:c.cellOk=true){u:Value}{d:Nat}{L:C->Value->Prop}
  (hr:rel w (X.S st.roots m) L dm false d [] c u):av X m {st with roots:=upd st.roots n c.frz} a w/\(∃d',rel w (X.S (upd st.roots n c.frz) m) L0 (m n) true d' [] c.frz u)/\∃ch,ch=[n]/\eL X m st w m {st with roots:=upd st.roots n c.frz} w ch:=by
 have hS:∀b,X.S st.roots m b->X.S (upd st.roots n c.frz) m b:=by
  intro b hb;refine⟨hb.1,?_⟩;rintro⟨n',p,ho,hbk⟩;by_cases e:n'=n
  .simp_all[aI,qM]
  .simp only[aV e]at ho;exact hb.2 ⟨n',p,ho,hbk⟩
 have hr':=az (w':=w) (fun b _ hb=>⟨hS b hb,rfl⟩) d (fun _ _ _ h=>h) (fun h=>by simp at h) (fun _ _ _=>rfl) hr
 suffices step:eL X m st w m {st with roots:=upd st.roots n c.frz} w [n]from⟨h.go step,⟨d,FC hc hr'⟩,_,rfl,step⟩
 refine⟨rfl,?_,fun _ _ _=>rfl,ck _,⟨fun n p=>(n,p),none,?_,?_⟩,?_,?_,rfl,rfl,rfl,ck _⟩
 .intro t c0 ht;refine .inr ⟨ht,fun v u d ho hl=>?_⟩;cases hp:v.place with
  | none=>cases v<;>simp[C.place]at hp<;>exact hl.elim
  | some np=>
   obtain⟨n',p⟩:=np;refine mn hp rfl ?_ hl;intro nl es cap rows he;have:n'≠n:=by
    rintro rfl;rw[hd]at he;cases p<;>simp[C.at,C.kid]at he
   exact⟨cap,rows,by simp_all[aV],rfl⟩
 .intro n' p b ho hb;by_cases e:n'=n
  .simp_all[aI,qM]
  .simp only[aV e]at ho;exact .inr ⟨oZk,ho,hb,h.lt ho hb⟩
 .simp_all
 .intro n' e;have e:n'≠n:=by simpa using e
  exact⟨by simp[aV e],fun _ _=>rfl,fun _ _ _ _ _=>rfl⟩
 .intro _ n' e;obtain rfl:n'=n:=by simpa using e
  exact⟨u,d,by grind[aI,FC]⟩
end Go.Abs
namespace Go.Abs
def C.turn_append(f:C->C):∀(q r:aq) (c:C),c.turn f (q++r)=c.turn (fun x=>x.turn f r) q:=by
 intro q
 induction q with
 | nil=>simp_all[C.turn]
 | cons s q ih=>
  intro r c;cases c<;>simp[C.turn,ih]
def av.world{X:Ctx}{m:Nat->aq->Value}{st:St}{a:Act}{w w':World}(h:av X m st a w)(hh:w'.heap=w.heap)(ho:w'.os=w.os)(ht:w'.tape=w.tape)(hu:w'.output=w.output)(hdr:w.drawn<=w'.drawn:=by first|exact ck _|exact n7 _):av X m st a w':=by
 refine h.go (ch:=[]) ⟨rfl,fun t c ht=>.inr ⟨ht,fun _ _ _ _ h=>h⟩,fun b _ _=>by rw[hh],by simp_all,⟨fun n p=>(n,p),none,?_,?_⟩,?_,fun _ n hn=>by simp at hn,ho,ht,hu,hdr⟩
 .intro n p b ho hb;exact .inr ⟨by simp,ho,hb,h.lt ho hb⟩
 .simp_all
 simp_all
def St.move(st:St)(n:Nat)(p:aq)(lo len:Nat)(cap:Option Nat)(h es:Nat)(rows:List (List C)):St:=
 {tmps:=st.tmps.map (poi fun n' p'=>n' == n&&ph p p'),
  roots:=upd (upd st.roots n ((st.roots n).turn (fun _=>.dead) p)) h (.sl true none es cap ((rows.drop lo).take len))}
def ji(m:Nat->aq->Value)(n:Nat)(p:aq)(lo h:Nat)(u:Value):Nat->aq->Value:=fun n' p'=>
 if n'=h then(match p' with|[]=>u|(i,j)::r=>m n (p++(lo+i,j)::r))else m n' p'
def av.move{X:Ctx}{m:Nat->aq->Value}{st:St}{a:Act}{w:World}(H:av X m st a w){n h:Nat}{p:aq}{lo len:Nat}{cap cap0:Option Nat}{nl:Option Bool}{es:Nat}{rows:List (List C)}
  (hh:st.roots h=.dead) (hn:h≠n) (hat:(st.roots n).at p=some (.sl true nl es cap0 rows)) {u:Value} (hv:Lv st.roots m (.pal n p lo len cap) u):
  av X (ji m n p lo h u) (st.move n p lo len cap h es rows) a w/\(∃d,rel w (X.S (st.move n p lo len cap h es rows).roots (ji m n p lo h u)) L0 (ji m n p lo h u h) true d [] (.sl true none es cap ((rows.drop lo).take len)) u)∧
   eL X m st w (ji m n p lo h u) (st.move n p lo len cap h es rows) w [n,h]:=by
 obtain⟨nl',es',cap',rows',ad,k,a',k',h1,h2,h3,h4,h5,h6,h7,h8,h9⟩:=hv;rw[hat]at h1;simp only[cc,C.sl.injEq,true_and]at h1;obtain⟨rfl,rfl,rfl,rfl⟩:=h1;have hRh:(st.move n p lo len cap h es rows).roots h=.sl true none es cap ((rows.drop lo).take len):=by simp[St.move,aI]
 have hRn:(st.move n p lo len cap h es rows).roots n=(st.roots n).turn (fun _=>.dead) p:=by simp[St.move,upd,hn.symm]
 have hRo:∀k,k≠h->k≠n->(st.move n p lo len cap h es rows).roots k=st.roots k:=by simp_all[St.move,upd]
 have hrow:∀i,((rows.drop lo).take len)[i]?=if i<len then rows[lo+i]? else none:=by
  grind
 have hkidsOwn:∀i j r,ak (.sl true none es cap ((rows.drop lo).take len)) ((i,j)::r)->ak (st.roots n) (p++(lo+i,j)::r):=by
  grind[ak,C.at_append,C.at,C.kid]
 have hnew:(∀b,b<w.heap.size->X.S st.roots m b->X.S (st.move n p lo len cap h es rows).roots (ji m n p lo h u) b/\w.heap[b]?=w.heap[b]?) ->
   ∃d,rel w (X.S (st.move n p lo len cap h es rows).roots (ji m n p lo h u)) L0 (ji m n p lo h u h) true d [] (.sl true none es cap ((rows.drop lo).take len)) u:=by
  intro hS;obtain⟨u0,d0,hr0⟩:=H.root n;obtain⟨u1,d1,hr1⟩:=A8 p hr0 hat;simp only[cO]at hr1;obtain⟨a1,k1,dd,e1,e2,e3,e4,e5,ez,e6,e7⟩:=ei hr1;rw[h2]at e2;simp only[Value.slice.injEq]at e2;obtain⟨rfl,_,rfl⟩:=e2;have hl:((rows.drop lo).take len).length=len:=oZd;have hu:ji m n p lo h u h []=u:=by simp[ji]
  have hmk:∃d,rel w (X.S (st.move n p lo len cap h es rows).roots (ji m n p lo h u)) L0 (ji m n p lo h u h) true d [] (.sl true none es cap ((rows.drop lo).take len)) (ji m n p lo h u h []):=by
   refine⟨dd+1,qt (a:=a') (k:=k') oZf oZg oZg h7 ?_ ?_ ?_⟩
   .grind
   .grind
   .rcases h9 with h9|⟨b,off,hb1,hb2⟩
    .exact .inl h9
    .rcases e7 with e7|⟨b',off',arr,elem,g1,g2,g4,g5⟩
     .omega
     .rw[hb1]at g1;simp only[cc,Addr.mk.injEq]at g1;obtain⟨rfl,rfl,_⟩:=g1;refine .inr ⟨b,off+lo*es,arr,elem,hb2,g2,?_,?_⟩
      .have:(lo+k')* es<=k*es:=nr _ h6
       grind
      .intro i j row c' f1 f2;rw[hrow]at f1;split at f1
       .obtain⟨u',f3,f4⟩:=g5 (lo+i) j row c' f1 f2;refine⟨u',oZi,?_⟩;refine az hS dd (fun _ _ _ h=>h) (fun _ _ _ _ _ _=>rfl) ?_ f4
        simp_all[ji]
       .simp at f1
  simp_all
 have step:eL X m st w (ji m n p lo h u) (st.move n p lo len cap h es rows) w [n,h]:=by
  refine⟨by simp[St.move],?_,fun _ _ _=>rfl,ck _,⟨fun n' p'=>if n'=h then(match p' with|[]=>(n,p)|(i,j)::r=>(n,p++(lo+i,j)::r))else(n',p'),none,?_,?_⟩,?_,?_,rfl,rfl,rfl,ck _⟩
  .refine Ff fun v u' n' p' hp hf hl=>?_;have hnh:n'≠h:=by
    rintro rfl;cases v with
    | pref n2 p2 i j=>
     simp only[C.place,cc,cP]at hp;obtain⟨rfl,rfl⟩:=hp;obtain⟨_,_,_,_,_,_,_,g,_⟩:=hl;rw[hh]at g;cases p2<;>simp[C.at,C.kid]at g
    | pal n2 p2 l2 len2 cap2=>
     simp only[C.place,cc,cP]at hp;obtain⟨rfl,rfl⟩:=hp;obtain⟨_,_,_,_,_,_,_,_,g,_⟩:=hl;rw[hh]at g;cases p2<;>simp[C.at,C.kid]at g
    | _=>simp[C.place]at hp
   refine mn hp (by simp[ji,hnh]) ?_ hl;intro nl es2 cap2 rows2 he;by_cases e:n'=n
   .subst e;rw[hRn];have hf':ph p p'=false:=oZf;obtain⟨x',f1,f2,f3⟩:=C.at_turn_off (fun _=>.dead) p p' (st.roots n') _ _ hat (by intro r;rintro rfl;simp_all[JN]) he
    grind
   grind
  .intro n' p' b ho hb;refine .inr ⟨oZk,?_⟩;by_cases e:n'=h
   .subst e;rw[hRh]at ho;simp only[if_true];cases p' with
    | nil=>
     have hb':blk u=some b:=by simp_all[ji]
     have hbk:blk (m n p)=some b:=by
      rw[h4]at hb';rcases h9 with h9|⟨b0,off,hb1,hb2⟩
      .cases a'<;>simp[blk,h9]at hb'
      grind[blk,Option.some.injEq]
     have ho':ak (st.roots n) p:=by unfold ak;rw[hat];rfl
     exact⟨ho',hbk,H.lt ho' hbk⟩
    | cons s r=>
     obtain⟨i,j⟩:=s;have hb':blk (m n (p++(lo+i,j)::r))=some b:=by simp_all[ji]
     exact⟨hkidsOwn i j r ho,hb',H.lt (hkidsOwn i j r ho) hb'⟩
   .have hb':blk (m n' p')=some b:=by simp_all[ji]
    simp only[e,if_false];by_cases e2:n'=n
    .subst e2;rw[hRn]at ho;rcases ak.of_turn hat ho with⟨r,_,hx⟩|⟨_,hx⟩
     .simp_all[aY]
     .exact⟨hx,hb',H.lt hx hb'⟩
    .rw[hRo n' e e2]at ho;exact⟨ho,hb',H.lt ho hb'⟩
  .intro n1 p1 n2 p2 ho1 ho2 _ _ e;have off:∀{p'},ak ((st.move n p lo len cap h es rows).roots n) p'->∀r,p'≠p++r:=by
    intro p' ho;rw[hRn]at ho;rcases ak.of_turn hat ho with⟨r,_,hx⟩|⟨hx,_⟩
    .simp_all[aY]
    .exact hx
   by_cases c1:n1=h<;>by_cases c2:n2=h
   .subst c1;subst c2;simp only[if_true]at e;cases p1 with
    | nil=>cases p2 with
     | nil=>simp_all
     | cons s r=>simp at e
    | cons s r=>cases p2 with
     | nil=>simp at e
     | cons s2 r2=>
      obtain⟨i,j⟩:=s
      simp_all
   .subst c1;simp only[if_true,c2,if_false]at e;exfalso;cases p1 with
    | nil=>simp only[cP]at e;obtain⟨rfl,rfl⟩:=e;exact off ho2 [] oZk
    | cons s r=>grind
   .subst c2;simp only[if_true,c1,if_false]at e;exfalso;cases p2 with
    | nil=>simp only[cP]at e;obtain⟨rfl,rfl⟩:=e;exact off ho1 [] oZk
    | cons s r=>grind
   simp_all
  .intro n' hn';simp only[cF,nG,or_false,not_or]at hn';exact⟨hRo n' hn'.2 hn'.1,fun q _=>by simp[ji,hn'.2],fun _ _ _ _ _=>rfl⟩
  .intro hS n' hn';by_cases e:n'=h
   .grind
   .obtain rfl:n'=n:=oZf;rw[hRn];obtain⟨u0,d0,hr0⟩:=H.root n';obtain⟨d',hd⟩:=Fi (f:=fun _=>.dead) (m':=ji m n' p lo h u n') hS p hr0 hat (fun _ _ _ _ _ _=>rfl) (fun q1 _ _=>by simp[ji,e]) (fun u0 d0 _=>⟨1,trivial⟩)
    grind
 exact⟨H.go step,hnew step.S,step⟩
end Go.Abs
namespace Go.Abs
theorem CX{R:Nat->C}{m:Nat->aq->Value}{v:C}{u:Value}{n:Nat}{p:aq}(hp:v.place=some (n,p))(hl:Lv R m v u):R n≠.dead:=by
 intro hd;cases v with
 | pref n2 p2 i j=>
  simp only[C.place,cc,cP]at hp;obtain⟨rfl,rfl⟩:=hp;obtain⟨_,_,_,_,_,_,_,g,_⟩:=hl;rw[hd]at g;cases p2<;>simp[C.at,C.kid]at g
 | pal n2 p2 l2 len2 cap2=>
  simp only[C.place,cc,cP]at hp;obtain⟨rfl,rfl⟩:=hp;obtain⟨_,_,_,_,_,_,_,_,g,_⟩:=hl;rw[hd]at g;cases p2<;>simp[C.at,C.kid]at g
 | _=>simp[C.place]at hp
def N7(w:World)(b o:Nat)(u:Value)(arr:Array Value)(elem:TypeId)(fz:Nat×Nat)(h:w.heap[b]?=some (.cells arr elem fz)):
  (w.setCell ⟨b,o,none⟩ u).heap[b]?=some (.cells (arr.setIfInBounds o u) elem fz):=by
 simp[World.setCell,aiI,h]
def uz(w:World)(b o:Nat)(u:Value)(b':Nat)(h:b'≠b):(w.setCell ⟨b,o,none⟩ u).heap[b']?=w.heap[b']?:=by
 simp[World.setCell,aiI,xw h]
def St.plug(st:St)(f:Nat->aq->Bool)(n:Nat)(q:aq)(i j h:Nat):St:=
 {tmps:=st.tmps.map (poi f),
  roots:=upd (upd st.roots n ((st.roots n).turn (fun _=>st.roots h) (q++[(i,j)]))) h .dead}
def St.plugG(st:St)(g:List C->List C)(n:Nat)(q:aq)(i j h:Nat):St:=
 {tmps:=g st.tmps,
  roots:=upd (upd st.roots n ((st.roots n).turn (fun _=>st.roots h) (q++[(i,j)]))) h .dead}
open Classical in
noncomputable def sn(m:Nat->aq->Value)(n:Nat)(Q:aq)(h:Nat):Nat->aq->Value:=fun n' p'=>
 if n'=n then(if e:∃r,p'=Q++r then m h (Classical.choose e)else m n p')else m n' p'
def U2(Q r:aq)(e:∃r',Q++r=Q++r'):Classical.choose e=r:=
 (ajl (xx e)).symm
def XS(m:Nat->aq->Value)(n:Nat)(Q r:aq)(h:Nat):sn m n Q h n (Q++r)=m h r:=by
 have e:∃r',Q++r=Q++r':=⟨r,rfl⟩;simp only[sn,if_true,dif_pos e];rw[U2]
def uJ(m:Nat->aq->Value)(n:Nat)(Q p':aq)(h:Nat)(hp:∀r,p'≠Q++r):sn m n Q h n p'=m n p':=by
 have e:¬ ∃r,p'=Q++r:=fun⟨r,hr⟩=>hp r hr;simp only[sn,if_true,dif_neg e]
def LU(m:Nat->aq->Value)(n:Nat)(Q:aq)(h:Nat){n':Nat}(p':aq)(hn:n'≠n):sn m n Q h n' p'=m n' p':=by
 simp[sn,hn]
def av.plugG{X:Ctx}{m:Nat->aq->Value}{st:St}{a:Act}{w:World}(H:av X m st a w){n h:Nat}{q:aq}{i j:Nat}{cap:Option Nat}{nl:Option Bool}{es:Nat}{rows:List (List C)}{row:List C}{c0:C}
  {f:List C->List C} (hgl:(f st.tmps).length=st.tmps.length)
  (hg:∀(t:Nat) (c:C),(f st.tmps)[t]?=some c->c=.dead∨(st.tmps[t]?=some c/\∀v u d n' p',occ d c v->v.place=some (n',p')->Lv st.roots m v u->(n'=h->¬ak (st.roots h) p')/\(n'=n->∀r,p'≠q++[(i,j)]++r)))
  (hn:h≠n) (hat:(st.roots n).at q=some (.sl true nl es cap rows)) (hrow:rows[i]?=some row) (hc0:row[j]?=some c0)
  {b off k:Nat} (hm:m n q=.slice (some ⟨b,off,none⟩) rows.length k) {u1:Value} {d1:Nat} (hu:rel w (X.S st.roots m) L0 (m h) true d1 [] (st.roots h) u1):
  av X (sn m n (q++[(i,j)]) h) (st.plugG f n q i j h) a (w.setCell ⟨b,off+i*es+j,none⟩ u1)/\eL X m st w (sn m n (q++[(i,j)]) h) (st.plugG f n q i j h) (w.setCell ⟨b,off+i*es+j,none⟩ u1) [n,h]:=by
 have hRh:(st.plugG f n q i j h).roots h=.dead:=by simp[St.plugG,aI]
 have hRn:(st.plugG f n q i j h).roots n=(st.roots n).turn (fun _=>st.roots h) (q++[(i,j)]):=by simp[St.plugG,upd,hn.symm]
 have hRo:∀k,k≠h->k≠n->(st.plugG f n q i j h).roots k=st.roots k:=by intro k e1 e2;simp[St.plugG,upd,e1,e2]
 have hatc:(st.roots n).at (q++[(i,j)])=some c0:=by simp[C.at_append,hat,C.at,C.kid,hrow,hc0]
 have hk0:k≠0:=by
  obtain⟨u0,d0,hr0⟩:=H.root n;obtain⟨u2,d2,hr2⟩:=A8 q hr0 hat;simp only[cO]at hr2;obtain⟨a1,k1,dd,e1,e2,e3,_⟩:=ei hr2;rw[hm]at e2;simp only[Value.slice.injEq]at e2;have:=(cg.1 hrow).1;omega
 have hoq:ak (st.roots n) q:=by unfold ak;rw[hat];rfl
 have hbq:blk (m n q)=some b:=by rw[hm];simp[blk,hk0]
 have step:eL X m st w (sn m n (q++[(i,j)]) h) (st.plugG f n q i j h) (w.setCell ⟨b,off+i*es+j,none⟩ u1) [n,h]:=by
  refine⟨by simp[St.plugG,hgl],?_,?_,by simp[World.setCell],?_,?_,?_,rfl,rfl,rfl,ck _⟩
  .intro t c ht;rcases hg t c ht with h0|⟨h0,h1⟩
   .exact .inl h0
   refine .inr ⟨h0,fun v u d ho hl=>?_⟩;obtain⟨n',p',hp⟩:∃n' p',v.place=some (n',p'):=by
    cases v<;>first|exact⟨_,_,rfl⟩|exact hl.elim
   obtain⟨hh,hoff0⟩:=h1 v u d n' p' ho hp hl;have hnh:n'≠h:=by
    rintro rfl;refine hh rfl ?_;cases v with
    | pref n2 p2 i j=>
     simp only[C.place,cc,cP]at hp;obtain⟨rfl,rfl⟩:=hp;obtain⟨_,_,_,_,_,_,_,g,_⟩:=hl;unfold ak;rw[g];rfl
    | pal n2 p2 l2 len2 cap2=>
     simp only[C.place,cc,cP]at hp;obtain⟨rfl,rfl⟩:=hp;obtain⟨_,_,_,_,_,_,_,_,g,_⟩:=hl;unfold ak;rw[g];rfl
    | _=>simp[C.place]at hp
   by_cases e:n'=n
   .subst e;have hoff:∀r,p'≠q++[(i,j)]++r:=hoff0 rfl;refine mn hp (uJ m n' _ p' h hoff) ?_ hl;intro nl es2 cap2 rows2 he;rw[hRn];obtain⟨x',f1,f2,f3⟩:=C.at_turn_off (fun _=>st.roots h) _ p' (st.roots n') _ _ hatc hoff he
    grind
   .refine mn hp (LU m n _ h p' e) ?_ hl;intro nl es2 cap2 rows2 he;exact⟨_,_,by rw[hRo n' hnh e];exact he,rfl⟩
  .intro b' hlt hno;refine uz w b _ u1 b' ?_;rintro rfl;exact hno ⟨n,q,hoq,hbq⟩
  .refine⟨fun n' p'=>by classical exact if n'=n then(if e:∃r,p'=q++[(i,j)]++r then(h,Classical.choose e)else(n,p'))else(n',p'),none,?_,?_⟩
   .intro n' p' b' ho hb;refine .inr ⟨oZk,?_⟩;by_cases e:n'=n
    .subst e;rw[hRn]at ho;simp only[if_true];rcases ak.of_turn hatc ho with⟨r,rfl,hx⟩|⟨hoff,hx⟩
     .have e:∃r',q++[(i,j)]++r=q++[(i,j)]++r':=⟨r,rfl⟩;rw[dif_pos e,U2];rw[XS]at hb;exact⟨hx,hb,H.lt hx hb⟩
     .rw[dif_neg (fun⟨r,hr⟩=>hoff r hr)];rw[uJ _ _ _ _ _ hoff]at hb;exact⟨hx,hb,H.lt hx hb⟩
    .simp only[e,if_false];rw[LU _ _ _ _ _ e]at hb;by_cases e2:n'=h
     .subst e2;rw[hRh]at ho;exact(aY ho).elim
     .rw[hRo n' e2 e]at ho;exact⟨ho,hb,H.lt ho hb⟩
   .intro n1 p1 n2 p2 ho1 ho2 _ _ e;have nh:∀{n' p'},ak ((st.plugG f n q i j h).roots n') p'->n'≠h:=by
     rintro n' p' ho rfl;rw[hRh]at ho;exact aY ho
    have g1:=nh ho1;have g2:=nh ho2;by_cases c1:n1=n<;>by_cases c2:n2=n
    .subst c1;subst c2;refine⟨rfl,?_⟩;simp only[if_true]at e;by_cases x1:∃r,p1=q++[(i,j)]++r<;>by_cases x2:∃r,p2=q++[(i,j)]++r
     .rw[dif_pos x1,dif_pos x2]at e;simp only[cP,true_and]at e;rw[xx x1,xx x2,e]
     .rw[dif_pos x1,dif_neg x2]at e;simp only[cP]at e;exact absurd e.1 hn
     .rw[dif_neg x1,dif_pos x2]at e;simp only[cP]at e;exact absurd e.1.symm hn
     simp_all
    .subst c1;simp only[if_true,c2,if_false]at e;by_cases x1:∃r,p1=q++[(i,j)]++r
     .rw[dif_pos x1]at e;simp only[cP]at e;exact absurd e.1.symm g2
     .rw[dif_neg x1]at e;simp only[cP]at e;exact absurd e.1.symm c2
    .subst c2;simp only[if_true,c1,if_false]at e;by_cases x2:∃r,p2=q++[(i,j)]++r
     .rw[dif_pos x2]at e;simp only[cP]at e;exact absurd e.1 g1
     .rw[dif_neg x2]at e;simp only[cP]at e;exact absurd e.1 c1
    simp_all
  .intro n' hn';simp only[cF,nG,or_false,not_or]at hn';refine⟨hRo n' hn'.2 hn'.1,fun q1 _=>LU m n _ h q1 hn'.1,?_⟩;intro q1 b' ho hb' _;refine uz w b _ u1 b' ?_;rintro rfl;exact hn'.1 (H.inj _ _ _ _ _ ho hoq hb' hbq).1
  .intro hS n' hn';by_cases e:n'=h
   .subst e;exact⟨undef,1,by rw[hRh];trivial⟩
   .have e2:n'=n:=by simpa[e]using hn'
    subst e2;rw[hRn,C.turn_append];obtain⟨u0,d0,hr0⟩:=H.root n';refine⟨u0,?_⟩;have other:∀q1,ak (st.roots n') q1->q1≠q->∀b',blk (m n' q1)=some b'->b'<w.heap.size->(w.setCell ⟨b,off+i*es+j,none⟩ u1).heap[b']?=w.heap[b']?:=by
     intro q1 ho hne b' hb' _;refine uz w b _ u1 b' ?_;rintro rfl;exact hne (H.inj _ _ _ _ _ ho hoq hb' hbq).2
    refine Fi (f:=fun x=>x.turn (fun _=>st.roots h) [(i,j)]) hS q hr0 hat ?_ ?_ ?_
    .intro q1 b' ho hne hb' hlt;exact other q1 ho (by rintro rfl;exact hne [] oZk) b' (by simpa using hb') hlt
    .intro q1 ho hne;simp only[cO];exact uJ m n' _ q1 h (by intro r;rintro rfl;exact hne ((i,j)::r) oZk)
    .intro u2 d2 hr2;simp only[cO]at hr2 ⊢;obtain⟨a1,k1,dd,e1,e2,e3,e4,e5,ez,e6,e7⟩:=ei hr2;rw[hm]at e2;simp only[Value.slice.injEq]at e2;obtain⟨rfl,_,rfl⟩:=e2;rcases e7 with e7|⟨b',off',arr,elem,g1,g2,g4,g5⟩
     .exact absurd e7 hk0
     .simp only[cc,Addr.mk.injEq]at g1;obtain⟨rfl,rfl,_⟩:=g1;have hmq:sn m n' (q++[(i,j)]) h n' q=m n' q:=uJ m n' _ q h (by intro r hr;have:=congrArg List.length hr;simp at this);refine⟨max dd d1+1,?_⟩;rw[e1,<-hmq];simp only[C.turn];have hre:row.length=es:=e6 row (cd hrow);have hj:j<es:=by rw[<-hre];exact(cg.1 hc0).1
      have hlen:∀(f:List C->List C),(rows.modify i f).length=rows.length:=by intro f;simp
      refine qt (a:=some ⟨b,off,none⟩) (k:=k) (by rw[hmq,hm,hlen]) (by rw[hlen];exact e3) e4 e5 ⟨ez.1,oZk⟩ ?_ (.inr ⟨b,off,arr.setIfInBounds (off+i*es+j) u1,elem,rfl,N7 w b _ u1 arr elem (0,0) g2,by simpa using g4,?_⟩)
      .grind[List.getElem?_of_mem]
      .have keep:∀(i' j':Nat) (row':List C) (c':C),(i',j')≠(i,j)->rows[i']?=some row'->row'[j']?=some c' ->
         ∃u',(arr.setIfInBounds (off+i*es+j) u1)[off+i'*es+j']?=some u'/\rel (w.setCell ⟨b,off+i*es+j,none⟩ u1) (X.S (st.plugG f n' q i j h).roots (sn m n' (q++[(i,j)]) h)) L0 (sn m n' (q++[(i,j)]) h n') true (max dd d1) (q++[(i',j')]) c' u':=by
        intro i' j' row' c' hne f1 f2;obtain⟨u',f3,f4⟩:=g5 i' j' row' c' f1 f2;have hj':j'<es:=by rw[<-e6 row' (cd f1)];exact(cg.1 f2).1
        refine⟨u',?_,aW dd _ (xI _ _) ?_⟩
        .rw[Array.getElem?_setIfInBounds_ne (xw (afi hj hj' hne))];exact f3
        .have up:∀{q1},ak c' q1->ak (st.roots n') (q++(i',j')::q1):=by
          intro q1 ho;unfold ak at ho ⊢;rw[C.at_append,hat];simpa[C.at,C.kid,f1,f2]using ho
         refine az hS dd (fun _ _ _ h=>h) ?_ ?_ f4
         .intro _ q1 b' ho hb' hlt;exact other _ (up ho) (by intro hr;have:=congrArg List.length hr;simp at this) b' (by simpa using hb') hlt
         simp_all[uJ]
       intro i' j' row' c' f1 f2;rw[Rq]at f1;by_cases hi:i=i'
       .subst hi;simp only[if_true,hrow,cI,cc]at f1;subst f1;rw[Rq]at f2;by_cases hjj:j=j'
        .subst hjj;simp only[if_true,hc0,cI,cc]at f2;subst f2;obtain⟨_,hcell,_⟩:=g5 i j row c0 hrow hc0;have hin:off+i*es+j<arr.size:=(ng.1 hcell).1;refine⟨u1,by simp[hin],aW d1 _ (xy _ _) ?_⟩;refine az (p:=[]) hS d1 (fun _ _ _ h=>h) ?_ ?_ hu
         .intro _ q1 b' ho hb' _;refine uz w b _ u1 b' ?_;rintro rfl;exact hn (H.inj _ _ _ _ _ ho hoq (by simpa using hb') hbq).1
         .intro _ q1 _;rw[XS];rfl
        .simp only[hjj,if_false]at f2;exact keep i j' row c' (by intro e;simp at e;exact hjj e.symm) hrow f2
       .simp only[hi,if_false]at f1;exact keep i' j' row' c' (by intro e;simp at e;exact hi e.1.symm) f1 f2
 exact⟨H.go step,step⟩
def av.plug{X:Ctx}{m:Nat->aq->Value}{st:St}{a:Act}{w:World}(H:av X m st a w){n h:Nat}{q:aq}{i j:Nat}{cap:Option Nat}{nl:Option Bool}{es:Nat}{rows:List (List C)}{row:List C}{c0:C}
  {f:Nat->aq->Bool} (hf1:∀p',f n p'=false->ph (q++[(i,j)]) p'=false) (hf2:∀p',f h p'=false->¬ak (st.roots h) p')
  (hn:h≠n) (hat:(st.roots n).at q=some (.sl true nl es cap rows)) (hrow:rows[i]?=some row) (hc0:row[j]?=some c0)
  {b off k:Nat} (hm:m n q=.slice (some ⟨b,off,none⟩) rows.length k) {u1:Value} {d1:Nat} (hu:rel w (X.S st.roots m) L0 (m h) true d1 [] (st.roots h) u1):
  av X (sn m n (q++[(i,j)]) h) (st.plug f n q i j h) a (w.setCell ⟨b,off+i*es+j,none⟩ u1)/\eL X m st w (sn m n (q++[(i,j)]) h) (st.plug f n q i j h) (w.setCell ⟨b,off+i*es+j,none⟩ u1) [n,h]:=by
 refine H.plugG (f:=fun ts=>ts.map (poi f)) oZk ?_ hn hat hrow hc0 hm hu;intro t c hc;simp only[cz,cq]at hc;obtain⟨c1,h0,rfl⟩:=hc;rcases ld f c1 with h1|⟨h1,hme⟩
 .exact .inl h1
 .rw[h1];refine .inr ⟨h0,fun v u d n' p' ho hp hl=>?_⟩;obtain⟨n2,p2,e1,e2⟩:=jB d 3 c1 v hme ho;rw[hp]at e1;simp only[cc,cP]at e1;obtain⟨rfl,rfl⟩:=e1;refine⟨fun e=>hf2 p' (by rw[<-e];exact e2),fun e r=>?_⟩;rintro rfl
  grind[JN]
def Ei:C->Bool
 | .sl true _ _ _ _=>false
 | .agg _=>false
 | .tup _=>false
 | _=>true
def acJ{c:C}(h:Ei c=true)(q:aq):¬ak c q:=by
 intro ho;cases c with
 | sl o _ _ _ _=>cases o<;>cases q<;>simp[Ei,ak,C.at,C.kid,C.isOwn]at h ho
 | agg _=>simp[Ei]at h
 | tup _=>simp[Ei]at h
 | _=>cases q<;>simp[ak,C.at,C.kid,C.isOwn]at ho
def afz{R:Nat->C}{m:Nat->aq->Value}{v:C}{u:Value}{n:Nat}{p:aq}(hp:v.place=some (n,p))(hl:Lv R m v u):ak (R n) p:=by
 cases v with
 | pref n2 p2 i j=>
  simp only[C.place,cc,cP]at hp;obtain⟨rfl,rfl⟩:=hp;obtain⟨_,_,_,_,_,_,_,g,_⟩:=hl;unfold ak;rw[g];rfl
 | pal n2 p2 l2 len2 cap2=>
  simp only[C.place,cc,cP]at hp;obtain⟨rfl,rfl⟩:=hp;obtain⟨_,_,_,_,_,_,_,_,g,_⟩:=hl;unfold ak;rw[g];rfl
 | _=>simp[C.place]at hp
def av.plugN{X:Ctx}{m:Nat->aq->Value}{st:St}{a:Act}{w:World}(H:av X m st a w){n h:Nat}{q:aq}{i j:Nat}{cap:Option Nat}{nl:Option Bool}{es:Nat}{rows:List (List C)}{row:List C}{c0:C}
  (hh:∀p,¬ak (st.roots h) p) (hleaf:Ei c0=true)
  (hn:h≠n) (hat:(st.roots n).at q=some (.sl true nl es cap rows)) (hrow:rows[i]?=some row) (hc0:row[j]?=some c0)
  {b off k:Nat} (hm:m n q=.slice (some ⟨b,off,none⟩) rows.length k) {u1:Value} {d1:Nat} (hu:rel w (X.S st.roots m) L0 (m h) true d1 [] (st.roots h) u1):
  av X (sn m n (q++[(i,j)]) h) (st.plugG id n q i j h) a (w.setCell ⟨b,off+i*es+j,none⟩ u1)/\eL X m st w (sn m n (q++[(i,j)]) h) (st.plugG id n q i j h) (w.setCell ⟨b,off+i*es+j,none⟩ u1) [n,h]:=by
 refine H.plugG rfl ?_ hn hat hrow hc0 hm hu;intro t c hc;refine .inr ⟨hc,fun v u d n' p' ho hp hl=>⟨fun e=>hh p',fun e r=>?_⟩⟩;rintro rfl;subst e;have h1:=afz hp hl;have hatc:(st.roots n').at (q++[(i,j)])=some c0:=by simp[C.at_append,hat,C.at,C.kid,hrow,hc0]
 unfold ak at h1;rw[C.at_append,hatc]at h1;exact acJ hleaf r h1
end Go.Abs
namespace Go.Abs
def mP(m:Nat->aq->Value)(d:Nat)(u:Value):Nat->aq->Value:=fun n p=>if n=d/\p=[]then u else m n p
theorem bz(m:Nat->aq->Value)(d:Nat)(u:Value):mP m d u d []=u:=by simp[mP]
theorem iK(m:Nat->aq->Value)(d:Nat)(u:Value){n:Nat}{p:aq}(h:¬(n=d/\p=[])):mP m d u n p=m n p:=by simp[mP,h]
def bL(w:World)(S:Nat->Prop)(D:Nat)(c:C)(u:Value):Prop:=c=.dead/\D≠0∨∃c0,c=c0.frz/\c0.cellOk=true/\rel w S L0 dm false D [] c0 u
def bL.notOwn{w:World}{S:Nat->Prop}{D:Nat}{c:C}{u:Value}(h:bL w S D c u){q:aq}:¬ak c q:=by
 rcases h with⟨rfl,_⟩|⟨c0,rfl,h1,_⟩
 .exact aY
 .exact qM h1
def bL.rel{w w':World}{S S':Nat->Prop}{D:Nat}{c:C}{u:Value}{m:aq->Value}{p:aq}(h:bL w S D c u)(hS:∀b,b<w.heap.size->S b->S' b/\w'.heap[b]?=w.heap[b]?):Go.Abs.rel w' S' L0 m true D p c u:=by
 rcases h with⟨rfl,h⟩|⟨c0,rfl,h1,h2⟩
 .cases D with
  | zero=>exact absurd rfl h
  | succ D=>trivial
 exact FC h1 (az (m':=dm) (p':=[]) hS D (L':=L0) (fun _ _ _ h=>h) (fun h=>by simp at h) (fun h=>by simp at h) h2)
def bL.dead{w:World}{S:Nat->Prop}{D:Nat}{u:Value}:bL w S (D+1) .dead u:=.inl ⟨rfl,oZg⟩
theorem bL.val{w:World}{S:Nat->Prop}{D:Nat}{u:Value}(h:u.oneCell'=true):bL w S (D+1) (.val u) u:=.inr ⟨.val u,rfl,h,rfl⟩
def FU{X:Ctx}{m m':Nat->aq->Value}{st st':St}{a:Act}{w w':World}{ch:List Nat}(h:av X m st a w)(s:eL X m st w m' st' w' ch):av X m' st' a w'/\eL X m st w m' st' w' ch:=⟨h.go s,s⟩
def av.newRoot{X:Ctx}{m:Nat->aq->Value}{st:St}{a:Act}{w w':World}(H:av X m st a w){d:Nat}(hd:st.roots d=.dead){arr:Array Value}{elem:TypeId}{rows:List (List C)}{es k D:Nat}{cap:Option Nat}
  (hw:w'.heap=w.heap.push (.cells arr elem)) (hos:w'.os=w.os) (htp:w'.tape=w.tape) (hou:w'.output=w.output)
  (h1:rows.length<=k) (h2:k<=maxLen) (h3:∀c,cap=some c->k=c) (h4:∀row∈rows,row.length=es) (h5:k*es<=arr.size)
  (h6:∀(i j:Nat) (row:List C) (c:C),rows[i]?=some row->row[j]?=some c->∃u,arr[i*es+j]?=some u/\bL w (X.S st.roots m) D c u) (hdr:w.drawn<=w'.drawn:=by first|exact ck _|exact n7 _):
  av X (mP m d (.slice (some ⟨w.heap.size,0,none⟩) rows.length k)) {st with roots:=upd st.roots d (.sl true none es cap rows)} a w' ∧
   eL X m st w (mP m d (.slice (some ⟨w.heap.size,0,none⟩) rows.length k)) {st with roots:=upd st.roots d (.sl true none es cap rows)} w' [d]:=by
 have hsz:w'.heap.size=w.heap.size+1:=by rw[hw];simp
 have hold:∀b,b<w.heap.size->w'.heap[b]?=w.heap[b]?:=by intro b hb;rw[hw,aiJ,if_neg (by omega)]
 have hownNew:∀p,ak (.sl true none es cap rows) p->p=[]:=by
  intro p ho;cases p with
  | nil=>rfl
  | cons s p=>
   obtain⟨i,j⟩:=s;exfalso;unfold ak at ho;simp only[C.at,C.kid]at ho;cases hr:rows[i]? with
   | none=>simp[hr]at ho
   | some row=>
    simp only[hr,cb]at ho;cases hc:row[j]? with
    | none=>simp[hc]at ho
    | some c=>
     obtain⟨u,_,hf⟩:=h6 i j row c hr hc;exact hf.notOwn (q:=p) (by unfold ak;simpa[hc]using ho)
 refine FU H ?_;refine⟨rfl,?_,fun b hb _=>hold b hb,by omega,⟨fun n p=>(n,p),some (d,[]),?_,?_⟩,?_,?_,hos,htp,hou,hdr⟩
 .intro t c ht;refine .inr ⟨ht,fun v u dd ho hl=>?_⟩;cases hp:v.place with
  | none=>cases v<;>simp[C.place]at hp<;>exact hl.elim
  | some np=>
   obtain⟨n',p⟩:=np;have hne:n'≠d:=by rintro rfl;exact CX hp hl hd
   refine mn hp (iK _ _ _ (fun e=>hne e.1)) ?_ hl;intro nl es2 cap2 rows2 he;exact⟨cap2,rows2,by simpa[aV hne]using he,rfl⟩
 .intro n p b ho hb;by_cases e:n=d
  .subst e;simp only[aI]at ho;obtain rfl:=hownNew p ho;rw[bz]at hb;refine .inl ⟨rfl,?_⟩;simp only[blk]at hb;split at hb
   .simp at hb
   .simp only[cc]at hb;omega
  .simp only[aV e]at ho;rw[iK _ _ _ (fun h=>e h.1)]at hb;exact .inr ⟨by simp;intro h;exact absurd h.symm e,ho,hb,H.lt ho hb⟩
 .intro n p n' p' _ _ _ _ e;simpa using e
 .intro n e;have e:n≠d:=by simpa using e
  exact⟨by simp[aV e],fun q _=>iK _ _ _ (fun h=>e h.1),fun q b ho hb hlt=>hold b hlt⟩
 .intro hS n e
  .obtain rfl:n=d:=by simpa using e
   refine⟨mP m n (.slice (some ⟨w.heap.size,0,none⟩) rows.length k) n [],D+1,?_⟩;simp only[aI];refine qt (d:=D) (a:=some ⟨w.heap.size,0,none⟩) (k:=k) (bz _ _ _) h1 h2 h3 ⟨by simp,by simp⟩ h4 (.inr ⟨w.heap.size,0,arr,elem,rfl,by rw[hw];simp,by omega,?_⟩);intro i j row c e1 e2;obtain⟨u,f1,f2⟩:=h6 i j row c e1 e2;exact⟨u,by rw[<-f1];congr 1;omega,f2.rel hS⟩
def av.regrow{X:Ctx}{m:Nat->aq->Value}{st:St}{a:Act}{w w':World}(H:av X m st a w){n:Nat}{nl:Option Bool}{es D:Nat}{cap cap':Option Nat}{rows extra:List (List C)}(hR:st.roots n=.sl true nl es cap rows)
  {a0:Option Addr} {k:Nat} (hm:m n []=.slice a0 rows.length k) {b' off' k':Nat} {arr':Array Value} {elem':TypeId}
  (h1:rows.length+extra.length<=k') (h2:k'<=maxLen) (h3:∀c,cap'=some c->k'=c) (h4:∀row∈extra,row.length=es)
  (hb':w'.heap[b']?=some (.cells arr' elem')) (hfit:off'+k'*es<=arr'.size)
  (hsame:(b'=w.heap.size/\w'.heap.size=w.heap.size+1/\∀x,x<w.heap.size->w'.heap[x]?=w.heap[x]?)∨(k≠0/\a0.map Addr.block=some b'/\w'.heap.size=w.heap.size/\∀x,x≠b'->w'.heap[x]?=w.heap[x]?))
  (hold:∀b off arr elem,a0=some ⟨b,off,none⟩->w.heap[b]?=some (.cells arr elem)->k≠0->∀x,x<rows.length*es->arr'[off'+x]?=arr[off+x]?)
  (hnew:∀(i j:Nat) (row:List C) (c:C),extra[i]?=some row->row[j]?=some c->∃u,arr'[off'+(rows.length+i)* es+j]?=some u/\bL w (X.S st.roots m) D c u)
  (hos:w'.os=w.os) (htp:w'.tape=w.tape) (hou:w'.output=w.output) (hdr:w.drawn<=w'.drawn:=by first|exact ck _|exact n7 _):
  av X (mP m n (.slice (some ⟨b',off',none⟩) (rows.length+extra.length) k')) {tmps:=st.tmps.map (poi fun n' _=>n' == n),roots:=upd st.roots n (.sl true none es cap' (rows++extra))} a w' ∧
   eL X m st w (mP m n (.slice (some ⟨b',off',none⟩) (rows.length+extra.length) k')) {tmps:=st.tmps.map (poi fun n' _=>n' == n),roots:=upd st.roots n (.sl true none es cap' (rows++extra))} w' [n]:=by
 have hown0:ak (st.roots n) []:=by rw[hR];rfl
 have hblk:∀x,x<w.heap.size->(∀n2 p2,ak (st.roots n2) p2->blk (m n2 p2)=some x->(n2,p2)≠(n,[]))->(k=0∨blk (m n [])≠some x)->w'.heap[x]?=w.heap[x]?:=by
  intro x hx _ hne;rcases hsame with⟨_,_,hs⟩|⟨hk,ha,_,hs⟩
  .exact hs x hx
  .refine hs x ?_;rintro rfl;rcases hne with h|h
   .exact hk h
   .apply h;rw[hm];cases a0 with
    | none=>simp at ha
    | some ad=>simp only[cI,cc]at ha;simp[blk,hk,ha]
 have hother:∀n2 p2 x,ak (st.roots n2) p2->blk (m n2 p2)=some x->(n2,p2)≠(n,[])->x<w.heap.size->w'.heap[x]?=w.heap[x]?:=by
  intro n2 p2 x ho hb hne hx;rcases hsame with⟨_,_,hs⟩|⟨hk,ha,_,hs⟩
  .exact hs x hx
  .refine hs x ?_;rintro rfl;have:blk (m n [])=some x:=by
    rw[hm];cases a0 with
    | none=>simp at ha
    | some ad=>simp only[cI,cc]at ha;simp[blk,hk,ha]
   have:=H.inj _ _ _ _ _ ho hown0 hb this;exact hne (by rw[this.1,this.2])
 have hoNew:∀p,ak (.sl true none es cap' (rows++extra)) p->ak (st.roots n) p:=by
  intro p ho;rw[hR];cases p with
  | nil=>rfl
  | cons s p=>
   obtain⟨i,j⟩:=s;unfold ak at ho ⊢;simp only[C.at,C.kid]at ho ⊢;by_cases hi:i<rows.length
   .rwa[na hi]at ho
   .exfalso;rw[ni (by omega)]at ho;cases hr:extra[i-rows.length]? with
    | none=>simp[hr]at ho
    | some row=>
     simp only[hr,cb]at ho;cases hc:row[j]? with
     | none=>simp[hc]at ho
     | some c=>
      obtain⟨u,_,hf⟩:=hnew _ j row c hr hc;exact hf.notOwn (q:=p) (by unfold ak;simpa[hc]using ho)
 refine FU H ?_;refine⟨by simp,?_,?_,?_,⟨fun n p=>(n,p),if b'=w.heap.size then some (n,[])else none,?_,?_⟩,?_,?_,hos,htp,hou,hdr⟩
 .refine Ff fun v u n' p' hp hf hl=>?_;have hne:n'≠n:=by simpa using hf
  refine mn hp (iK _ _ _ (fun e=>hne e.1)) ?_ hl;intro nl es2 cap2 rows2 he;exact⟨cap2,rows2,by simpa[aV hne]using he,rfl⟩
 .intro b hb hno;rcases hsame with⟨_,_,hs⟩|⟨hk,ha,_,hs⟩
  .exact hs b hb
  .refine hs b ?_;rintro rfl;refine hno ⟨n,[],hown0,?_⟩;rw[hm];cases a0 with
   | none=>simp at ha
   | some ad=>simp only[cI,cc]at ha;simp[blk,hk,ha]
 .rcases hsame with⟨_,h,_⟩|⟨_,_,h,_⟩<;>omega
 .intro n2 p2 b ho hb;by_cases e:n2=n
  .subst e;simp only[aI]at ho;by_cases ep:p2=[]
   .subst ep;rw[bz]at hb;simp only[blk]at hb;split at hb
    .simp at hb
    .simp only[cc]at hb;subst hb;rcases hsame with⟨e1,_,_⟩|⟨hk,ha,_,_⟩
     .exact .inl ⟨by simp[e1],by omega⟩
     .have hbb:blk (m n2 [])=some b':=by
       rw[hm];cases a0 with
       | none=>simp at ha
       | some ad=>simp only[cI,cc]at ha;simp[blk,hk,ha]
      have hlt:=H.lt hown0 hbb;exact .inr ⟨by rw[if_neg (by omega)];simp,hown0,hbb,hlt⟩
   .rw[iK _ _ _ (fun h=>ep h.2)]at hb;have:=hoNew p2 ho;exact .inr ⟨by split<;>simp[xw ep],this,hb,H.lt this hb⟩
  .simp only[aV e]at ho;rw[iK _ _ _ (fun h=>e h.1)]at hb;exact .inr ⟨by split<;>simp[xw e],ho,hb,H.lt ho hb⟩
 .intro n1 p1 n2 p2 _ _ _ _ e;simpa using e
 .intro n2 e;have e:n2≠n:=by simpa using e
  refine⟨by simp[aV e],fun q _=>iK _ _ _ (fun h=>e h.1),?_⟩;intro q x ho hb hlt;exact hother n2 q x ho hb (fun h=>e (by simp at h;exact h.1)) hlt
 .intro hS n2 e
  .obtain rfl:n2=n:=by simpa using e
   simp only[aI];obtain⟨u0,d0,hr0⟩:=H.root n2;rw[hR]at hr0;obtain⟨a1,k1,dd,e1,e2,e3,e4,e5,ez,e6,e7⟩:=ei hr0;rw[hm]at e2;simp only[Value.slice.injEq]at e2;obtain⟨rfl,_,rfl⟩:=e2;refine⟨mP m n2 (.slice (some ⟨b',off',none⟩) (rows.length+extra.length) k') n2 [],max dd D+1,qt (d:=max dd D) (a:=some ⟨b',off',none⟩) (k:=k') (by rw[bz];simp) (by simpa using h1) h2 h3 ⟨by simp,by simp⟩ ?_ (.inr ⟨b',off',arr',elem',rfl,hb',hfit,?_⟩)⟩
   .intro row hrow;rcases cJ.1 hrow with h|h
    .exact e6 row h
    .exact h4 row h
   .intro i j row c f1 f2;by_cases hi:i<rows.length
    .rw[na hi]at f1;rcases e7 with e7|⟨b,off,arr,elem,g1,g2,g4,g5⟩
     .omega
     .obtain⟨u',f3,f4⟩:=g5 i j row c f1 f2;have hj:j<es:=by rw[<-e6 row (cd f1)];exact(cg.1 f2).1
      have hx:i*es+j<rows.length*es:=by
       have:(i+1)* es<=rows.length*es:=nr _ (by omega);rw[nH]at this;omega
      refine⟨u',?_,aW dd _ (xI _ _) ?_⟩
      .rw[nw,hold b off arr elem g1 g2 (by omega) _ hx,<-nw];exact f3
      .have up:∀{q1},ak c q1->ak (st.roots n2) ((i,j)::q1):=by
        intro q1 ho;rw[hR];unfold ak at ho ⊢;simpa[C.at,C.kid,f1,f2]using ho
       refine az hS dd (fun _ _ _ h=>h) ?_ ?_ f4
       .intro _ q1 x ho hb hlt;exact hother n2 _ x (up ho) (by simpa using hb) (by simp) hlt
       .intro _ q1 _;exact iK _ _ _ (fun h=>by simp at h)
    .rw[ni (by omega)]at f1;obtain⟨u,f3,f4⟩:=hnew _ j row c f1 f2;exact⟨u,by rw[<-f3,show rows.length+(i-rows.length)=i by omega],aW D _ (xy _ _) (f4.rel hS)⟩
end Go.Abs
namespace Go.Abs
def Af(n:Nat):Nat->aq->Bool:=fun n' p'=>n' == n && !p'.isEmpty
def av.rewrite{X:Ctx}{m:Nat->aq->Value}{st:St}{a:Act}{w w':World}(H:av X m st a w){n:Nat}{nl:Option Bool}{es D:Nat}{cap:Option Nat}{rows rows':List (List C)}(hR:st.roots n=.sl true nl es cap rows)
  {b off k:Nat} (hm:m n []=.slice (some ⟨b,off,none⟩) rows.length k) (hk:k≠0) {arr':Array Value} {elem':TypeId}
  (h1:rows'.length<=k) (hge:rows.length<=rows'.length) (h4:∀row∈rows',row.length=es)
  (hb':w'.heap[b]?=some (.cells arr' elem')) (hfit:off+k*es<=arr'.size) (hsz:w'.heap.size=w.heap.size) (hs:∀x,x≠b->w'.heap[x]?=w.heap[x]?)
  (hnew:∀(i j:Nat) (row:List C) (c:C),rows'[i]?=some row->row[j]?=some c->∃u,arr'[off+i*es+j]?=some u/\bL w (X.S st.roots m) D c u)
  (hos:w'.os=w.os) (htp:w'.tape=w.tape) (hou:w'.output=w.output) (hdr:w.drawn<=w'.drawn:=by first|exact ck _|exact n7 _):
  av X (mP m n (.slice (some ⟨b,off,none⟩) rows'.length k)) {tmps:=st.tmps.map (poi (Af n)),roots:=upd st.roots n (.sl true nl es cap rows')} a w' ∧
   eL X m st w (mP m n (.slice (some ⟨b,off,none⟩) rows'.length k)) {tmps:=st.tmps.map (poi (Af n)),roots:=upd st.roots n (.sl true nl es cap rows')} w' [n]:=by
 have hown0:ak (st.roots n) []:=by rw[hR];rfl
 have hblk:blk (m n [])=some b:=by rw[hm];simp[blk,hk]
 have hother:∀n2 p2 x,ak (st.roots n2) p2->blk (m n2 p2)=some x->(n2,p2)≠(n,[])->w'.heap[x]?=w.heap[x]?:=by
  intro n2 p2 x ho hb hne;refine hs x ?_;rintro rfl;have:=H.inj _ _ _ _ _ ho hown0 hb hblk;exact hne (by rw[this.1,this.2])
 have hoNew:∀p,ak (.sl true nl es cap rows') p->p=[]:=by
  intro p ho;cases p with
  | nil=>rfl
  | cons s p=>
   obtain⟨i,j⟩:=s;exfalso;unfold ak at ho;simp only[C.at,C.kid]at ho;cases hr:rows'[i]? with
   | none=>simp[hr]at ho
   | some row=>
    simp only[hr,cb]at ho;cases hc:row[j]? with
    | none=>simp[hc]at ho
    | some c=>
     obtain⟨u,_,hf⟩:=hnew _ j row c hr hc;exact hf.notOwn (q:=p) (by unfold ak;simpa[hc]using ho)
 refine FU H ?_;refine⟨by simp,?_,?_,by omega,⟨fun n p=>(n,p),none,?_,?_⟩,?_,?_,hos,htp,hou,hdr⟩
 .refine Ff fun v u n' p' hp hf hl=>?_;by_cases hne:n'=n
  .subst hne;have hp':p'=[]:=by simpa[Af]using hf
   subst hp';cases v with
   | pref n0 p0 i j=>
    simp only[C.place,cc,cP]at hp;obtain⟨rfl,rfl⟩:=hp;obtain⟨nl2,es2,cap2,rows2,b2,off2,k2,f1,f2,f3⟩:=hl;rw[hR]at f1;simp only[C.at,cc,C.sl.injEq,true_and]at f1;obtain⟨rfl,rfl,rfl,rfl⟩:=f1;rw[hm]at f2;simp only[Value.slice.injEq,cc,Addr.mk.injEq,and_true,true_and]at f2;obtain⟨⟨rfl,rfl⟩,rfl⟩:=f2;exact⟨nl,es,cap,rows',b,off,k,by simp[aI,C.at],by rw[bz],f3⟩
   | pal n0 p0 lo len cp=>
    simp only[C.place,cc,cP]at hp;obtain⟨rfl,rfl⟩:=hp;obtain⟨nl2,es2,cap2,rows2,a2,k2,a3,k3,f1,f2,f3,f4,f5,f6,f7,f8,f9⟩:=hl;rw[hR]at f1;simp only[C.at,cc,C.sl.injEq,true_and]at f1;obtain⟨rfl,rfl,rfl,rfl⟩:=f1;rw[hm]at f2;simp only[Value.slice.injEq,true_and]at f2;obtain⟨rfl,rfl⟩:=f2;exact⟨nl,es,cap,rows',_,k,a3,k3,by simp[aI,C.at],by rw[bz],by omega,f4,f5,f6,f7,f8,f9⟩
   | _=>exact hl.elim
  .refine mn hp (iK _ _ _ (fun e=>hne e.1)) ?_ hl;intro nl es2 cap2 rows2 he;exact⟨cap2,rows2,by simpa[aV hne]using he,rfl⟩
 .intro x _ hno;refine hs x ?_;rintro rfl;exact hno ⟨n,[],hown0,hblk⟩
 .intro n2 p2 x ho hb;by_cases e:n2=n
  .subst e;simp only[aI]at ho;have:=hoNew p2 ho;subst this;rw[bz]at hb;simp only[blk,hk,if_false,cc]at hb;subst hb;exact .inr ⟨by simp,hown0,hblk,H.lt hown0 hblk⟩
  .simp only[aV e]at ho;rw[iK _ _ _ (fun h=>e h.1)]at hb;exact .inr ⟨by simp,ho,hb,H.lt ho hb⟩
 .intro n1 p1 n2 p2 _ _ _ _ e;simpa using e
 .intro n2 e;have e:n2≠n:=by simpa using e
  refine⟨by simp[aV e],fun q _=>iK _ _ _ (fun h=>e h.1),?_⟩;intro q x ho hb _;exact hother n2 q x ho hb (fun h=>e (by simp at h;exact h.1))
 .intro hS n2 e;obtain rfl:n2=n:=by simpa using e
  simp only[aI];obtain⟨u0,d0,hr0⟩:=H.root n2;rw[hR]at hr0;obtain⟨a1,k1,dd,e1,e2,e3,e4,e5,ez,e6,e7⟩:=ei hr0;rw[hm]at e2;simp only[Value.slice.injEq]at e2;obtain⟨rfl,_,rfl⟩:=e2;refine⟨mP m n2 (.slice (some ⟨b,off,none⟩) rows'.length k) n2 [],D+1,qt (d:=D) (a:=some ⟨b,off,none⟩) (k:=k) (by rw[bz]) h1 e4 e5 ez h4 (.inr ⟨b,off,arr',elem',rfl,hb',hfit,?_⟩)⟩;intro i j row c f1 f2;obtain⟨u,f3,f4⟩:=hnew i j row c f1 f2;exact⟨u,f3,f4.rel hS⟩
end Go.Abs
namespace Go.Abs
inductive TK where
 | slice (elem es:Nat)
 | struct (fs:List (Nat×Nat))
 | arr (n elem es:Nat)
 | str
 | int (k:IntKind)
 | bool
 | other
inductive EK where
 | int
 | str
 | bool
structure TI where
 size:Nat
 agg:Bool
 bytes:Nat
 zero:List Value
 eqs:List EK
 kind:TK
structure FnS where
 own:List Bool
 pure:Bool
 fn:List C->Option C
 peek:Bool:=false
structure FnL where
 k:Nat
 fn:List C->List C->Option (C×List C)
 pure:Bool:=false
structure Env where
 T:Nat->Option TI
 G:Nat->Nat->Option FnS
 F:Nat->Option Bool:=fun _=>none
 L:Nat->Nat->Option FnL:=fun _ _=>none
def St.node(st:St)(n:Nat)(p:aq):Option C:=(st.roots n).at p
def ofV:Value->C
 | .agg cs=>.agg (cs.toList.map .val)
 | v=>.val v
def St.ev(st:St):Operand->C
 | .tmp t=>(st.tmps[t]?).getD .dead
 | .const v=>ofV v
 | .func f=>.clo (Q9 f) []
 | .global _=>.dead
def inK(k:IntKind)(n:Int):Prop:=k.min<=n/\n<=k.max
def RF(op:BinOp)(k:IntKind)(a b:Int):Option C:=
 match op with
 | .add=>some (.val (.int k (k.wrap (a+b))))
 | .sub=>some (.val (.int k (k.wrap (a-b))))
 | .mul=>some (.val (.int k (k.wrap (a*b))))
 | .quo=>if b=0 then none else some (.val (.int k (k.wrap (a.tdiv b))))
 | .rem=>if b=0 then none else some (.val (.int k (a.tmod b)))
 | .and=>some (.val (.int k (k.wrap (BitVec.ofInt k.bits a &&& BitVec.ofInt k.bits b).toNat)))
 | .or=>some (.val (.int k (k.wrap (BitVec.ofInt k.bits a ||| BitVec.ofInt k.bits b).toNat)))
 | .xor=>some (.val (.int k (k.wrap (BitVec.ofInt k.bits a ^^^ BitVec.ofInt k.bits b).toNat)))
 | .eql=>some (.val (.bool (decide (a=b))))
 | .neq=>some (.val (.bool (!decide (a=b))))
 | .lss=>some (.val (.bool (decide (a<b))))
 | .leq=>some (.val (.bool (decide (a<=b))))
 | .gtr=>some (.val (.bool (decide (b<a))))
 | .geq=>some (.val (.bool (decide (b<=a))))
 | _=>none
def w8(k:IntKind)(a b:Int):Int:=a.fdiv (2 ^ min b.toNat k.bits)
def acg(k:IntKind)(a b:Int):Int:=k.wrap (a*2 ^ min b.toNat k.bits)
def R4(op:BinOp)(k:IntKind)(a b:Int):Option C:=
 match op with
 | .shl=>if b<0 then none else some (.val (.int k (acg k a b)))
 | .shr=>if b<0 then none else some (.val (.int k (w8 k a b)))
 | _=>none
def sEq(a b:ByteArray):Bool:=a.toList == b.toList
def sLt(a b:ByteArray):Bool:=Op.bytesLess a.toList b.toList
def Si(op:BinOp)(a b:ByteArray):Option C:=
 match op with
 | .add=>if(a.size:Int)+b.size<=9223372036854775807 then some (.val (.string (a++b)))else none
 | .eql=>some (.val (.bool (sEq a b)))
 | .neq=>some (.val (.bool (!sEq a b)))
 | .lss=>some (.val (.bool (sLt a b)))
 | .leq=>some (.val (.bool (sLt a b || sEq a b)))
 | .gtr=>some (.val (.bool (!(sLt a b || sEq a b))))
 | .geq=>some (.val (.bool (!sLt a b)))
 | _=>none
def Om:EK->C->C->Option Bool
 | .int,.val (.int k a),.val (.int k' b)=>if k=k' then some (decide (a=b))else none
 | .str,.val (.string a),.val (.string b)=>some (sEq a b)
 | .bool,.val (.bool a),.val (.bool b)=>some (decide (a=b))
 | _,_,_=>none
def dz:List EK->List C->List C->Option Bool
 | [],[],[]=>some true
 | k::ks,a::as,b::bs=>match Om k a b,dz ks as bs with
  | some x,some y=>some (x&&y)
  | _,_=>none
 | _,_,_=>none
def OZ:C->Option Bool
 | .val (.slice none 0 0)=>some true
 | .sl _ (some b) _ _ _=>some b
 | .sl _ none _ _ rows=>if rows.length≠0 then some false else none
 | .pal _ _ _ len _=>if len≠0 then some false else none
 | _=>none
def MR(op:BinOp)(b:Bool):Option C:=
 match op with
 | .eql=>some (.val (.bool b))
 | .neq=>some (.val (.bool (!b)))
 | _=>none
def Pa(ti:Option TI)(op:BinOp):C->C->Option C
 | .val (.int k a),.val (.int k' b)=>match R4 op k a b with
  | some c=>some c
  | none=>if k=k' then RF op k a b else none
 | .val (.string a),.val (.string b)=>Si op a b
 | .val (.bool a),.val (.bool b)=>match ti with
  | some ti=>match ti.kind with
   | .bool=>MR op (decide (a=b))
   | _=>none
  | none=>none
 | .agg as,.agg bs=>match ti with
  | some ti=>if ti.eqs.isEmpty=true then none else(dz ti.eqs as bs).bind (MR op)
  | none=>none
 | x,.val (.slice none 0 0)=>match ti with
  | some ti=>match ti.kind with
   | .slice _ _=>(OZ x).bind (MR op)
   | _=>none
  | none=>none
 | _,_=>none
def unC(op:UnOp):C->Option C
 | .val (.bool b)=>match op with
  | .not=>some (.val (.bool (!b)))
  | _=>none
 | .val (.int k n)=>match op with
  | .neg=>some (.val (.int k (k.wrap (0-n))))
  | _=>none
 | _=>none
def Ps(ti:TI):C->Option C
 | .val (.int _ n)=>match ti.kind with
  | .int k=>some (.val (.int k (k.wrap n)))
  | _=>none
 | .val (.string s)=>match ti.kind with
  | .str=>some (.val (.string s))
  | _=>none
 | _=>none
def ZO:List C->Option Int
 | [.val (.int .u8 n)]=>some n
 | _=>none
def K6:List (List C)->Option (List Int)
 | []=>some []
 | r::rs=>match ZO r,K6 rs with
  | some n,some l=>some (n::l)
  | _,_=>none
def Yj(l:List Int):ByteArray:=l.foldl (fun r n=>r.push (UInt8.ofNat n.toNat)) ByteArray.empty
def LS(st:St):C->Option (List (List C))
 | .sl _ _ 1 _ rows=>some rows
 | .pal n p lo len _=>match st.node n p with
  | some (.sl true _ 1 _ rows)=>some ((rows.drop lo).take len)
  | _=>none
 | _=>none
def AA:C->Option Nat
 | .val (.int _ n)=>if 0<=n then some n.toNat else none
 | _=>none
def SO(n:Nat)(p:aq)(i j:Nat):C->C
 | .sl true _ _ _ rows=>.pal n (p++[(i,j)]) 0 rows.length none
 | .agg _=>.dead
 | .tup _=>.dead
 | c=>c
def lP(n:Nat)(p:aq)(i:Nat):Nat->List C->List C
 | _,[]=>[]
 | j,c::cs=>SO n p i j c::lP n p i (j+1) cs
def HH(ti:TI)(cs:List C):Option C:=
 if ti.agg then some (.agg cs)else match cs with
  | [c]=>some c
  | _=>none
def C.oneC:C->Bool
 | .val v=>v.oneCell'
 | .sl ..=>true
 | .clo ..=>true
 | .iref ..=>true
 | .pref ..=>true
 | .pal ..=>true
 | _=>false
def wy(ti:TI)(c:C):Option (List C):=
 if ti.agg then match c with
  | .agg cs=>if cs.length=ti.size then some cs else none
  | _=>none
 else if ti.size=1/\c.oneC=true then some [c]else none
def ue(st:St)(ti:TI):C->Option C
 | .pref n p i j=>match st.node n p with
  | some (.sl true _ _ _ rows)=>match rows[i]? with
   | some row=>if j+ti.size<=row.length then HH ti (lP n p i j ((row.drop j).take ti.size))else none
   | none=>none
  | _=>none
 | .iref _ rows i j=>match rows[i]? with
  | some row=>if j+ti.size<=row.length then HH ti ((row.drop j).take ti.size)else none
  | none=>none
 | _=>none
def uq(E:Env)(ti:TI)(f:Nat)(x:C):Option C:=
 match ti.kind with
 | .struct fs=>match fs[f]? with
  | some (o,t)=>match E.T t with
   | some ft=>if ft.size=0 then none else match x with
    | .pref n p i j=>some (.pref n p i (j+o))
    | .iref es rows i j=>some (.iref es rows i (j+o))
    | _=>none
   | none=>none
  | none=>none
 | _=>none
def Ry(E:Env)(ti:TI)(f:Nat)(x:C):Option C:=
 match ti.kind,x with
 | .struct fs,.agg cs=>match fs[f]? with
  | some (o,t)=>match E.T t with
   | some ft=>if o+ft.size<=cs.length then HH ft ((cs.drop o).take ft.size)else none
   | none=>none
  | none=>none
 | _,_=>none
def lU(st:St)(ti:TI)(x ix:C):Option C:=
 match ti.kind,ix with
 | .slice _ es,.val (.int _ i)=>match x with
  | .pal n p lo len _=>match st.node n p with
   | some (.sl true _ es' _ _)=>if es'=es/\0<=i/\i<len then some (.pref n p (lo+i.toNat) 0)else none
   | _=>none
  | .sl _ _ es' _ rows=>if es'=es/\0<=i/\i<rows.length then some (.iref es rows i.toNat 0)else none
  | _=>none
 | .arr n _ es,.val (.int _ i)=>if 0<=i/\i<n then match x with
  | .pref n' p i' j=>some (.pref n' p i' (j+i.toNat*es))
  | .iref es' rows i' j=>some (.iref es' rows i' (j+i.toNat*es))
  | _=>none
  else none
 | _,_=>none
def KW(E:Env)(ti:TI)(x ix:C):Option C:=
 match ti.kind,x,ix with
 | .str,.val (.string s),.val (.int _ i)=>if 0<=i then match s[i.toNat]? with
  | some b=>some (.val (.int .u8 b.toNat))
  | none=>none
  else none
 | .arr n e es,.agg cs,.val (.int _ i)=>match E.T e with
  | some te=>if te.agg=false/\es=1/\0<=i/\i<n then match cs[i.toNat]? with
   | some (.val v)=>some (.val v)
   | _=>none
   else none
  | none=>none
 | _,_,_=>none
def wq(len:Nat)(cap:Option Nat)(lo hi mx:Option C):Option (Nat×Nat×Option Nat):=
 match(match lo with|none=>some 0|some c=>AA c),(match hi with|none=>some len|some c=>AA c)with
 | some l,some h=>match mx with
  | none=>if l<=h/\h<=len then some (l,h,cap.map (· - l))else none
  | some c=>match AA c,hi with
   | some m,some _=>if l<=h/\h<=m/\(m<=len∨∃k∈cap,m<=k)/\h<=len then some (l,h,some (m-l))else none
   | _,_=>none
 | _,_=>none
def Gr(st:St)(ti:TI)(x:C)(lo hi mx:Option C):Option C:=
 match ti.kind,x with
 | .str,.val (.string s)=>match mx with
  | none=>match wq s.size none lo hi none with
   | some (l,h,_)=>some (.val (.string (s.extract l h)))
   | none=>none
  | some _=>none
 | .slice _ es,.pal n p lo0 len0 cap0=>match st.node n p with
  | some (.sl true _ es' _ _)=>if es'=es then match wq len0 cap0 lo hi mx with
   | some (l,h,c)=>some (.pal n p (lo0+l) (h-l) c)
   | none=>none
   else none
  | _=>none
 | .slice _ es,.sl _ nl es' cap rows=>if es'=es then match wq rows.length cap lo hi mx with
  | some (l,h,c)=>some (.sl false nl es c ((rows.drop l).take (h-l)))
  | none=>none
  else none
 | .slice _ _,.val (.slice none 0 0)=>match wq 0 (some 0) lo hi mx with
  | some _=>some (.val (.slice none 0 0))
  | none=>none
 | _,_=>none
def JD(cs:List C)(o:Nat)(new:List C):List C:=cs.take o++new++cs.drop (o+new.length)
def tF(E:Env)(ti:TI):List (Nat×C)->List C->Option (List C)
 | [],cs=>some cs
 |(i,c)::rest,cs=>
  match ti.kind with
  | .struct fs=>match fs[i]? with
   | some (o,t)=>match(E.T t).bind (wy · c)with
    | some new=>if o+new.length<=cs.length then tF E ti rest (JD cs o new)else none
    | none=>none
   | none=>none
  | .arr _ e es=>match(E.T e).bind (wy · c)with
   | some new=>if new.length=es/\i*es+es<=cs.length then tF E ti rest (JD cs (i*es) new)else none
   | none=>none
  | _=>none
def z7:C->Option Nat
 | .val (.slice none 0 0)=>some 0
 | .sl _ _ _ _ rows=>some rows.length
 | .pal _ _ _ len _=>some len
 | _=>none
def Rh:C->Option Nat
 | .val (.slice none 0 0)=>some 0
 | .sl _ _ _ cap _=>cap
 | .pal _ _ _ _ cap=>cap
 | _=>none
def pW(f:Int->Int->Int):IntKind->Int->List C->Option C
 | k,x,[]=>some (.val (.int k x))
 | k,x,.val (.int k' y)::rest=>if k=k' then pW f k (f x y) rest else none
 | _,_,_=>none
def ov(ti:Option TI)(b:Builtin)(args:List C):Option C:=
 match b,args with
 | .len,[.val (.string s)]=>match ti with
  | some ti=>match ti.kind with
   | .str=>some (.val (.int .i64 s.size))
   | _=>none
  | none=>none
 | .len,[x]=>match ti with
  | some ti=>match ti.kind with
   | .slice _ _=>match z7 x with
    | some n=>some (.val (.int .i64 (n:Int)))
    | none=>none
   | _=>none
  | none=>none
 | .cap,[x]=>match ti with
  | some ti=>match ti.kind with
   | .slice _ _=>match Rh x with
    | some n=>some (.val (.int .i64 (n:Int)))
    | none=>none
   | _=>none
  | none=>none
 | .min,.val (.int k x)::rest=>pW (fun x y=>if y<x then y else x) k x rest
 | .max,.val (.int k x)::rest=>pW (fun x y=>if y>x then y else x) k x rest
 | _,_=>none
def O6(E:Env)(ti:TI)(parts:List (Nat×C)):Option C:=
 match ti.kind with
 | .struct _=>(tF E ti parts (ti.zero.map .val)).map .agg
 | .arr _ _ _=>(tF E ti parts (ti.zero.map .val)).map .agg
 | _=>none
def Rb(E:Env)(st:St)(src dst:TypeId)(c:C):Option C:=
 match E.T src,E.T dst with
 | some ts,some td=>match td.kind,ts.kind with
  | .str,.slice e 1=>match E.T e with
   | some te=>match te.kind with
    | .int .u8=>match LS st c with
     | some rows=>match K6 rows with
      | some l=>some (.val (.string (Yj l)))
      | none=>none
     | none=>none
    | _=>none
   | none=>none
  | _,_=>none
 | _,_=>none
def qop(E:Env)(st:St):Op->Option C
 | .move x=>some (st.ev x)
 | .assign x=>some (st.ev x)
 | .pick c a b=>match st.ev c with
  | .val (.bool t)=>some (if t then st.ev a else st.ev b)
  | _=>none
 | .load t x=>(E.T t).bind fun ti=>ue st ti (st.ev x)
 | .fieldAddr s x f=>(E.T s).bind fun ti=>uq E ti f (st.ev x)
 | .field s x f=>(E.T s).bind fun ti=>Ry E ti f (st.ev x)
 | .indexAddr t x ix=>(E.T t).bind fun ti=>lU st ti (st.ev x) (st.ev ix)
 | .index t x ix=>(E.T t).bind fun ti=>KW E ti (st.ev x) (st.ev ix)
 | .binOp op t x y _=>Pa (E.T t) op (st.ev x) (st.ev y)
 | .unOp op _ x=>unC op (st.ev x)
 | .convert src dst x=>match(if(E.T src).isSome then(E.T dst).bind fun ti=>Ps ti (st.ev x)else none)with
  | some c=>some c
  | none=>Rb E st src dst (st.ev x)
 | .extract x i=>match st.ev x with
  | .tup cs=>cs[i]?
  | _=>none
 | .slice t x lo hi mx=>(E.T t).bind fun ti=>Gr st ti (st.ev x) (lo.map st.ev) (hi.map st.ev) (mx.map st.ev)
 | .makeFunc (.func f) first caps=>if first.size=0/\f<B0 then some (.clo f (caps.toList.map st.ev))else if caps.size=0 then some (.clo (f+B0) (first.toList.map st.ev))else none
 | .nilCheck x=>match st.ev x with
  | .pref n p i j=>some (.pref n p i j)
  | .iref es rows i j=>some (.iref es rows i j)
  | _=>none
 | .build t parts=>(E.T t).bind fun ti=>O6 E ti (parts.toList.map fun x=>(x.1,st.ev x.2))
 | .call {callee:=.builtin b,args,argTypes}=>ov ((argTypes[0]?).bind E.T) b (args.toList.map st.ev)
 | _=>none
end Go.Abs
namespace Go.Abs
def aaO(P:Program)(d:TypeDesc):TK->Prop
 | .slice e es=>d=.slice e/\∃i,P.info? e=some i/\i.size=es
 | .struct fs=>∃fields:Array Field,d=.struct fields/\(∀(k o t:Nat),fs[k]?=some (o,t)->∃f,fields[k]?=some f/\f.offset=o/\f.type=t)∧
   ∃places,fields.toList.mapM (fun f=>(P.info? f.type).map fun i=>(f.offset,i.size))=some places
 | .arr n e es=>d=.array n e/\∃i,P.info? e=some i/\i.size=es
 | .str=>d=.string
 | .int k=>d=.int k
 | .bool=>d=.bool
 | .other=>True
def Wu:TypeDesc->Bool
 | .struct _=>true
 | .array _ _=>true
 | _=>false
def C.toV:C->Value
 | .val v=>v
 | _=>undef
def afa(P:Program)(t:TypeId)(ks:List EK):Prop:=∀(w:World) (as bs:List C) (b:Bool),dz ks as bs=some b ->
 (∀(op:BinOp) (x y:Operand),(eqGuard op t x y (.agg (as.map C.toV).toArray) (.agg (bs.map C.toV).toArray)).run P w=.ok () w)∧
 (Op.equal t (.agg (as.map C.toV).toArray) (.agg (bs.map C.toV).toArray)).run P w=.ok b w
def Q4{n b B:Nat}(h:n *(b-1+1)<=B):n*b<=B/\n<=B:=⟨nq (aiW _ oZg) h,nq (Nat.le_mul_of_pos_right _ oZg) h⟩
structure fc (P:Program) (t:Nat) (ti:TI):Prop where
 info:∃i,P.info? t=some i/\i.size=ti.size/\i.bytes=ti.bytes/\∃z,i.zero=some z/\z.cells.toList=ti.zero
 und:∃d,P.underlying t=some d/\ti.agg=Wu d/\aaO P d ti.kind
 zlen:ti.zero.length=ti.size
 zone:∀v∈ti.zero,v.oneCell'=true
 eqs:ti.eqs.isEmpty=false->afa P t ti.eqs
def TOk(P:Program)(E:Env):Prop:=∀t ti,E.T t=some ti->fc P t ti
section
variable {P:Program} {w:World}
def fc.size{t:Nat}{ti:TI}(h:fc P t ti):(sizeOf t).run P w=.ok ti.size w:=by
 obtain⟨i,h1,h2,_⟩:=h.info;simp[sizeOf,typeInfo,h1,h2]
def fc.agg_run{t:Nat}{ti:TI}(h:fc P t ti):(isAgg t).run P w=.ok ti.agg w:=by
 obtain⟨d,h1,h2,_⟩:=h.und;unfold isAgg;rw[h2];cases d<;>simp[run_underlying h1,Wu]
def fc.zero_run{t:Nat}{ti:TI}(h:fc P t ti):∃z,(zeroValue t).run P w=.ok z w/\z.cells.toList=ti.zero:=by
 obtain⟨i,h1,_,_,z,h2,h3⟩:=h.info
 simp_all[zeroValue,typeInfo]
end
def aF(X:Ctx)(m:Nat->aq->Value)(st:St)(w:World)(c:C)(u:Value):Prop:=∃d,rel w (X.S st.roots m) (Lv st.roots m) dm false d [] c u
theorem aF.val{X:Ctx}{m:Nat->aq->Value}{st:St}{w:World}{v:Value}:aF X m st w (.val v) v:=⟨1,rfl⟩
def aF.dead{X:Ctx}{m:Nat->aq->Value}{st:St}{w:World}{v:Value}:aF X m st w .dead v:=⟨1,trivial⟩
def aF.of_val{X:Ctx}{m:Nat->aq->Value}{st:St}{w:World}{v u:Value}(h:aF X m st w (.val v) u):u=v:=by
 obtain⟨d,h⟩:=h;cases d with
 | zero=>exact h.elim
 | succ d=>exact h
def QJ{X:Ctx}{m:Nat->aq->Value}{st:St}{w:World}:∀(cs:List C) (us:List Value),us.length=cs.length->(∀(j:Nat) (c:C),cs[j]?=some c->∃u,us[j]?=some u/\aF X m st w c u) ->
  ∃d,∀(j:Nat) (c:C),cs[j]?=some c->∃u,us[j]?=some u/\rel w (X.S st.roots m) (Lv st.roots m) dm false d [] c u:=by
 intro cs
 induction cs with
 | nil=>simp_all
 | cons c cs ih=>
  intro us hl h;cases us with
  | nil=>simp at hl
  | cons u us=>
   obtain⟨d,hd⟩:=ih us oZf (fun j c' hc=>by simpa using h (j+1) c' oZf);obtain⟨u',h1,d',h2⟩:=h 0 c rfl;simp only[cG,cc]at h1;subst h1;refine⟨max d d',?_⟩;intro j c' hc;cases j with
   | zero=>simp only[cG,cc]at hc;subst hc;exact⟨u,rfl,aW _ _ (xy _ _) h2⟩
   | succ j=>
    grind[aW]
def aF.agg{X:Ctx}{m:Nat->aq->Value}{st:St}{w:World}{cs:List C}{us:List Value}(hl:us.length=cs.length)(h:∀(j:Nat) (c:C),cs[j]?=some c->∃u,us[j]?=some u/\aF X m st w c u):aF X m st w (.agg cs) (.agg us.toArray):=by
 obtain⟨d,hd⟩:=QJ cs us hl h;refine⟨d+1,us.toArray,rfl,by simp[hl],?_⟩
 grind[bY]
def aF.clo{X:Ctx}{m:Nat->aq->Value}{st:St}{w:World}{f:Nat}{cs:List C}{us:List Value}(hl:us.length=cs.length)(h:∀(j:Nat) (c:C),cs[j]?=some c->∃u,us[j]?=some u/\aF X m st w c u):aF X m st w (.clo f cs) (H7 f us.toArray):=by
 obtain⟨d,hd⟩:=QJ cs us hl h;refine⟨d+1,us.toArray,rfl,by simp[hl],?_⟩
 simp_all
def aF.of_agg{X:Ctx}{m:Nat->aq->Value}{st:St}{w:World}{cs:List C}{u:Value}(h:aF X m st w (.agg cs) u):∃us:List Value,u=.agg us.toArray/\us.length=cs.length/\∀(j:Nat) (c:C),cs[j]?=some c->∃u,us[j]?=some u/\aF X m st w c u:=by
 obtain⟨d,h⟩:=h;cases d with
 | zero=>exact h.elim
 | succ d=>
  obtain⟨arr,h1,h2,h3⟩:=h;refine⟨arr.toList,by simp[h1],oZg,?_⟩;intro j c hc;obtain⟨u',h4,h5⟩:=h3 j c hc;exact⟨u',oZf,d,bY h5⟩
def aF.of_tup{X:Ctx}{m:Nat->aq->Value}{st:St}{w:World}{cs:List C}{u:Value}(h:aF X m st w (.tup cs) u):∃us:List Value,u=.tuple us.toArray/\us.length=cs.length/\∀(j:Nat) (c:C),cs[j]?=some c->∃u,us[j]?=some u/\aF X m st w c u:=by
 obtain⟨d,h⟩:=h;cases d with
 | zero=>exact h.elim
 | succ d=>
  obtain⟨arr,h1,h2,h3⟩:=h;refine⟨arr.toList,by simp[h1],oZg,?_⟩;intro j c hc;obtain⟨u',h4,h5⟩:=h3 j c hc;exact⟨u',oZf,d,bY h5⟩
section
variable {X:Ctx} {m:Nat->aq->Value} {st:St} {a:Act} {w:World} {P:Program}
theorem bo(h:av X m st a w)(x:Operand):aF X m st w (st.ev x) (a.eval x):=by
 cases x with
 | tmp t=>
  simp only[St.ev,Act.eval];cases ht:st.tmps[t]? with
  | none=>exact .dead
  | some c=>
   obtain⟨u,d,h1,h2⟩:=h.tmp t c ht;refine⟨d,?_⟩
   simp_all
 | const v=>
  simp only[St.ev,Act.eval];cases v with
  | agg cs=>
   have:=aF.agg (X:=X) (m:=m) (st:=st) (w:=w) (cs:=cs.toList.map .val) (us:=cs.toList) oZk (by
    intro j c hc;simp only[cz,cq]at hc;obtain⟨v,h1,rfl⟩:=hc;exact⟨v,h1,.val⟩)
   simp_all[ofV]
  | _=>exact .val
 | func f=>
  have:=aF.clo (X:=X) (m:=m) (st:=st) (w:=w) (f:=Q9 f) (cs:=[]) (us:=[]) rfl oZk;rw[afs]at this;exact this
 | global g=>exact .dead
def N5(h:av X m st a w)(xs:List Operand):∀(j:Nat) (c:C),(xs.map st.ev)[j]?=some c->∃u,(xs.map a.eval)[j]?=some u/\aF X m st w c u:=by
 intro j c hc;simp only[cz,cq]at hc ⊢;obtain⟨x,h1,rfl⟩:=hc;exact⟨_,⟨x,h1,rfl⟩,bo h x⟩
theorem mu{b o:Nat}{arr:Array Value}{elem:TypeId}{fz:Nat×Nat}(h:w.heap[b]?=some (.cells arr elem fz)):w.cell? ⟨b,o,none⟩=arr[o]?:=cell_of_row w b o arr elem fz h
def R8{t:Nat}{ti:TI}(ht:fc P t ti){b o:Nat}{arr:Array Value}{elem:TypeId}{fz:Nat×Nat}(hb:w.heap[b]?=some (.cells arr elem fz)){cs:List C}(hl:cs.length=ti.size){c:C}(hp:HH ti cs=some c)
  (h:∀(j:Nat) (c:C),cs[j]?=some c->∃u,arr[o+j]?=some u/\aF X m st w c u):∃u,(loadVar t ⟨b,o,none⟩).run P w=.ok u w/\aF X m st w c u:=by
 unfold loadVar;simp only[Sem.run_bind,ht.agg_run,Result.andThen_ok];unfold HH at hp;have hus:∃us:List Value,us.length=cs.length/\(∀(j:Nat) (u:Value),us[j]?=some u->arr[o+j]?=some u)/\∀(j:Nat) (c:C),cs[j]?=some c->∃u,us[j]?=some u/\aF X m st w c u:=by
  clear hl hp;revert h
  induction cs generalizing o with
  | nil=>simp_all
  | cons c cs ih=>
   intro h;obtain⟨u,h1,h2⟩:=h 0 c rfl;obtain⟨us,g1,g2,g3⟩:=ih (o:=o+1) (fun j c' hc=>by
    obtain⟨u',e1,e2⟩:=h (j+1) c' oZf
    grind)
   refine⟨u::us,by simp[g1],?_,?_⟩
   .grind
   grind
 obtain⟨us,g1,g2,g3⟩:=hus;cases hagg:ti.agg with
 | true=>
  simp only[hagg,if_true,cc]at hp;subst hp;have hlc:=run_loadCells_list (P:=P) (w:=w) ⟨b,o,none⟩ us (by
   grind[Addr.add_lit,mu])
  rw[g1,hl]at hlc;refine⟨.agg us.toArray,by simp[Sem.run_bind,ht.size,hlc],aF.agg g1 g3⟩
 | false=>
  simp only[hagg,cS,if_false]at hp;cases cs with
  | nil=>simp at hp
  | cons c0 rest=>
   cases rest with
   | cons _ _=>simp at hp
   | nil=>
    simp only[cc]at hp;subst hp;obtain⟨u,h1,h2⟩:=g3 0 c0 rfl;have h3:=g2 0 u h1;simp only[xz]at h3
    grind[run_load,mu]
def O9(n:Nat)(p:aq)(i:Nat):∀(cs:List C) (j k:Nat),(lP n p i j cs)[k]?=(cs[k]?).map (SO n p i (j+k)):=by
 intro cs
 induction cs with
 | nil=>simp_all[lP]
 | cons c cs ih=>
  intro j k;cases k with
  | zero=>simp[lP]
  | succ k=>simp only[lP,nY,ih];grind
theorem JB(n:Nat)(p:aq)(i:Nat):∀(cs:List C) (j:Nat),(lP n p i j cs).length=cs.length:=by
 intro cs
 induction cs with
 | nil=>intro j;rfl
 | cons c cs ih=>simp_all[lP]
def aew{n:Nat}{p:aq}{i j:Nat}{c:C}{u:Value}{d:Nat}(hat:(st.roots n).at (p++[(i,j)])=some c)(h:rel w (X.S st.roots m) L0 (m n) true d (p++[(i,j)]) c u):aF X m st w (SO n p i j c) u:=by
 cases d with
 | zero=>exact h.elim
 | succ d=>
  cases c with
  | dead=>exact .dead
  | val v=>exact⟨1,h⟩
  | sl own nl es cap rows=>
   cases own with
   | false=>
    obtain⟨a,k,h1,h2,h3,h4,hz,h5,h6,h7⟩:=h;refine⟨d+1,a,k,h1,h2,h3,h4,hz,h5,oZk,?_⟩;rcases h7 with h7|h7|⟨b,off,arr,elem,frz,g1,g2,g3,g4,g5⟩
    .exact .inl h7
    .simp_all
    .exact .inr (.inr ⟨b,off,arr,elem,frz,g1,g2,fun _=>g3 oZk,oZk,fun i j row c' e1 e2=>by
      obtain⟨u',e3,e4⟩:=g5 i j row c' e1 e2;simp only[aiX]at e4
      grind[bY]⟩)
   | true=>
    obtain⟨a,k,dd,h1,h2,h3,h4,h5,hz,h6,h7⟩:=ei h;refine⟨1,nl,es,cap,rows,a,k,a,k,hat,h2,oZg,by rw[h1,h2],h3,oZg,oZk,oZk,?_⟩
    grind
  | agg cs=>exact .dead
  | tup cs=>exact .dead
  | clo f cs=>
   obtain⟨arr,h1,h2,h3⟩:=h;refine⟨d+1,arr,h1,h2,fun j c' e=>?_⟩;obtain⟨u',e1,e2⟩:=h3 j c' e;exact⟨u',e1,bY (az (fun _ _ h=>⟨h,rfl⟩) d (fun _ _ _ h=>h.elim) (fun h=>by simp at h) (fun h=>by simp at h) e2:rel w _ (Lv st.roots m) dm false d [] c' u')⟩
  | iref es rows i j=>
   obtain⟨b,off,arr,elem,frz,g1,g2,g3,g4,g5⟩:=h;exact⟨d+1,b,off,arr,elem,frz,g1,g2,g3,g4,fun i j row c' e1 e2=>let⟨u',e3,e4⟩:=g5 i j row c' e1 e2;⟨u',e3,bY e4⟩⟩
  | pref n p i j=>exact h.elim
  | pal n p lo len cap=>exact h.elim
def Ls(h:av X m st a w){n:Nat}{p:aq}{nl:Option Bool}{es:Nat}{cap:Option Nat}{rows:List (List C)}(hn:st.node n p=some (.sl true nl es cap rows)){i:Nat}{row:List C}(hr:rows[i]?=some row):
  ∃b off k arr elem,m n p=.slice (some ⟨b,off,none⟩) rows.length k/\k≠0/\w.heap[b]?=some (.cells arr elem (0,0))/\row.length=es/\off+k*es<=arr.size/\rows.length<=k ∧
   ∀(j:Nat) (c:C),row[j]?=some c->∃u,arr[off+i*es+j]?=some u/\aF X m st w (SO n p i j c) u:=by
 obtain⟨u0,d0,hr0⟩:=h.root n;obtain⟨u1,d1,hr1⟩:=A8 p hr0 hn;simp only[cO]at hr1;obtain⟨a1,k,dd,e1,e2,e3,e4,e5,ez,e6,e7⟩:=ei hr1;have hlt:=(cg.1 hr).1;rcases e7 with e7|⟨b,off,arr,elem,g1,g2,g4,g5⟩
 .omega
 .subst g1;refine⟨b,off,k,arr,elem,e2,oZg,g2,e6 row (cd hr),g4,e3,?_⟩;intro j c hc;obtain⟨u,f1,f2⟩:=g5 i j row c hr hc;refine⟨u,f1,aew ?_ f2⟩;have hn':(st.roots n).at p=some (.sl true nl es cap rows):=hn
  simp_all[C.at_append,C.at,C.kid]
def Tb{es:Nat}{rows:List (List C)}{i j:Nat}{u:Value}(h:aF X m st w (.iref es rows i j) u):∃b off arr elem frz,u=.pointer (some ⟨b,off+i*es+j,none⟩)/\w.heap[b]?=some (.cells arr elem frz)/\X.S st.roots m b/\(∀row∈rows,row.length=es)∧
  (∃d,∀(i' j':Nat) (row:List C) (c':C),rows[i']?=some row->row[j']?=some c'->∃u',arr[off+i'*es+j']?=some u'/\rel w (X.S st.roots m) L0 dm false d [] c' u'):=by
 obtain⟨d,h⟩:=h;cases d with
 | zero=>exact h.elim
 | succ d=>
  obtain⟨b,off,arr,elem,frz,g1,g2,g3,g4,g5⟩:=h;exact⟨b,off,arr,elem,frz,g1,g2,g3,g4,d,g5⟩
def aF.of_L0{c:C}{u:Value}{d:Nat}(h:rel w (X.S st.roots m) L0 dm false d [] c u):aF X m st w c u:=
 ⟨d,az (fun _ _ h=>⟨h,rfl⟩) d (fun _ _ _ h=>h.elim) (fun h=>by simp at h) (fun h=>by simp at h) h⟩
def Zg(h:av X m st a w){t:Nat}{ti:TI}(ht:fc P t ti){x c:C}{u:Value}(hx:aF X m st w x u)(hc:ue st ti x=some c):∃v,(Instr.loadAt t u).run P w=.ok v w/\aF X m st w c v:=by
 cases x with
 | pref n p i j=>
  simp only[ue]at hc;split at hc
  .rename_i nl es cap rows hn;split at hc
   .rename_i row hr;split at hc
    .rename_i hj;obtain⟨d,hx⟩:=hx;cases d with
     | zero=>exact hx.elim
     | succ d=>
      obtain⟨nl',es',cap',rows',b',off',k',f1,f2,rfl⟩:=hx;have f1':st.node n p=some (.sl true nl' es' cap' rows'):=f1;rw[hn]at f1';simp only[cc,C.sl.injEq,true_and]at f1';obtain⟨rfl,rfl,rfl,rfl⟩:=f1';obtain⟨b,off,k,arr,elem,g1,g2,g3,g4,g5,g6,g7⟩:=Ls h hn hr;rw[g1]at f2;simp only[Value.slice.injEq,cc,Addr.mk.injEq,and_true,true_and]at f2;obtain⟨⟨rfl,rfl⟩,rfl⟩:=f2;obtain⟨v,e1,e2⟩:=R8 (X:=X) (m:=m) (st:=st) ht (o:=off+i*es+j) g3 (cs:=lP n p i j ((row.drop j).take ti.size)) (by grind[JB]) hc (by
       intro k' c' hk;rw[O9]at hk
       grind)
      simp_all[Instr.loadAt,Instr.sureAddr]
    .simp at hc
   .simp at hc
  .simp at hc
 | iref es rows i j=>
  simp only[ue]at hc;split at hc
  .rename_i row hr;split at hc
   .rename_i hj;obtain⟨b,off,arr,elem,frz,rfl,g2,g3,g4,d,g5⟩:=Tb hx;obtain⟨v,e1,e2⟩:=R8 (X:=X) (m:=m) (st:=st) ht (o:=off+i*es+j) g2 (cs:=(row.drop j).take ti.size) oZd hc (by
     intro k' c' hk;rw[nt]at hk;split at hk
     .rw[nz]at hk;obtain⟨u',e1,e2⟩:=g5 i (j+k') row c' hr hk;exact⟨u',oZi,aF.of_L0 e2⟩
     .simp at hk)
    simp_all[Instr.loadAt,Instr.sureAddr]
   .simp at hc
  .simp at hc
 | _=>simp[ue]at hc
def WA{E:Env}(hT:TOk P E){s:Nat}{ti:TI}(ht:fc P s ti){f:Nat}{x c:C}{u:Value}(hx:aF X m st w x u)(hc:uq E ti f x=some c):∃v,(Instr.fieldAt s u f).run P w=.ok v w/\aF X m st w c v:=by
 obtain⟨d,hd,hagg,hk⟩:=ht.und;unfold uq at hc;split at hc
 .rename_i fs hkind;rw[hkind]at hk;obtain⟨fields,rfl,hf,_⟩:=hk;split at hc
  .rename_i o t hfs;obtain⟨fl,h1,rfl,rfl⟩:=hf f _ _ hfs;split at hc
   .rename_i ft hft;split at hc
    .simp at hc
    .rename_i hz;have hsz:=(hT _ ft hft).size (w:=w);have hrun:∀b o',(Instr.fieldAt s (.pointer (some ⟨b,o',none⟩)) f).run P w=.ok (.pointer (some ⟨b,o'+fl.offset,none⟩)) w:=by
      simp_all[Instr.fieldAt,run_underlying,Instr.sureAddr,fieldPlace,Addr.add_lit]
     split at hc
     .simp only[cc]at hc;subst hc;obtain⟨d,hx⟩:=hx;cases d with
      | zero=>exact hx.elim
      | succ d=>
       obtain⟨nl',es',cap',rows',b',off',k',f1,f2,rfl⟩:=hx;exact⟨_,hrun _ _,1,nl',es',cap',rows',b',off',k',f1,f2,oZi⟩
     .simp only[cc]at hc;subst hc;obtain⟨d,hx⟩:=hx;cases d with
      | zero=>exact hx.elim
      | succ d=>
       obtain⟨b,off,arr,elem,frz,rfl,g2⟩:=hx;exact⟨_,hrun _ _,d+1,b,off,arr,elem,frz,oZi,g2⟩
     .simp at hc
   .simp at hc
  .simp at hc
 .simp at hc
end
end Go.Abs
namespace Go.Abs
def Zp{k:IntKind}{n:Int}(h:inK k n):k.wrap n=n:=by
 obtain⟨h1,h2⟩:=h;cases k<;>simp[IntKind.wrap,IntKind.bits,IntKind.signed,IntKind.min,IntKind.max]at h1 h2 ⊢<;>omega
section
variable {X:Ctx} {m:Nat->aq->Value} {st:St} {a:Act} {w:World} {P:Program}
theorem aa2{op:BinOp}{k:IntKind}{x y:Int}{c:C}(hc:RF op k x y=some c)(t:TypeId):∃v,(binOp op t (.int k x) (.int k y)).run P w=.ok v w/\c=.val v:=by
 cases op<;>simp only[RF]at hc<;>(try split at hc)<;>simp only[cc,reduceCtorEq]at hc<;>subst hc
 .exact⟨.int k (k.wrap (x+y)),by simp[binOp,Op.intArith],rfl⟩
 .exact⟨.int k (k.wrap (x-y)),by simp[binOp,Op.intArith],rfl⟩
 .exact⟨.int k (k.wrap (x*y)),by simp[binOp,Op.intArith],rfl⟩
 .rename_i hy;exact⟨.int k (k.wrap (x.tdiv y)),by simp[binOp,Op.intDiv,hy],rfl⟩
 .rename_i hy;exact⟨.int k (x.tmod y),by simp[binOp,Op.intDiv,hy],rfl⟩
 .exact⟨_,by simp only[binOp,ne_eq,not_true,if_false,Op.intBits,Sem.run_pure],rfl⟩
 .exact⟨_,by simp only[binOp,ne_eq,not_true,if_false,Op.intBits,Sem.run_pure],rfl⟩
 .exact⟨_,by simp only[binOp,ne_eq,not_true,if_false,Op.intBits,Sem.run_pure],rfl⟩
 .exact⟨.bool (decide (x=y)),by simp only[binOp,Op.intCmp];by_cases h:x=y<;>simp[h],rfl⟩
 .exact⟨.bool (!decide (x=y)),by simp only[binOp,Op.intCmp];by_cases h:x=y<;>simp[h],rfl⟩
 .exact⟨.bool (decide (x<y)),by simp[binOp,Op.intCmp],rfl⟩
 .exact⟨.bool (decide (x<=y)),by simp[binOp,Op.intCmp],rfl⟩
 .exact⟨.bool (decide (y<x)),by simp[binOp,Op.intCmp],rfl⟩
 .exact⟨.bool (decide (y<=x)),by simp[binOp,Op.intCmp],rfl⟩
theorem abu{op:BinOp}{k yk:IntKind}{x y:Int}{c:C}(hc:R4 op k x y=some c)(t:TypeId):∃v,(binOp op t (.int k x) (.int yk y)).run P w=.ok v w/\c=.val v:=by
 cases op<;>simp only[R4]at hc<;>(try split at hc)<;>simp only[cc,reduceCtorEq]at hc<;>subst hc
 .rename_i hy;exact⟨.int k (acg k x y),by simp[binOp,Op.shift,hy,acg],rfl⟩
 .rename_i hy;exact⟨.int k (w8 k x y),by simp[binOp,Op.shift,hy,w8],rfl⟩
theorem abv{op:BinOp}{x y:ByteArray}{c:C}(hc:Si op x y=some c)(t:TypeId):∃v,(binOp op t (.string x) (.string y)).run P w=.ok v w/\c=.val v:=by
 cases op<;>simp only[Si]at hc<;>(try split at hc)<;>simp only[cc,reduceCtorEq]at hc<;>subst hc
 .rename_i h;exact⟨.string (x++y),by simp[binOp,Op.stringOp,h],rfl⟩
 all_goals exact⟨_,by simp[binOp,Op.stringOp];rfl,rfl⟩
theorem aaE{k:EK}{x y:C}{b:Bool}(h:Om k x y=some b):x=.val x.toV/\y=.val y.toV:=by
 unfold Om at h;split at h<;>simp[C.toV]at h ⊢
def Yt:∀{ks:List EK} {as bs:List C} {b:Bool},dz ks as bs=some b->as=as.map (fun c=>.val c.toV)/\bs=bs.map (fun c=>.val c.toV):=by
 intro ks
 induction ks with
 | nil=>grind[dz]
 | cons k ks ih=>
  intro as bs b h;cases as with
  | nil=>simp[dz]at h
  | cons x as=>
   cases bs with
   | nil=>simp[dz]at h
   | cons y bs=>
    grind[dz,aaE]
theorem aF.of_vals{cs:List C}{u:Value}(hv:cs=cs.map (fun c=>.val c.toV))(h:aF X m st w (.agg cs) u):u=.agg (cs.map C.toV).toArray:=by
 obtain⟨us,rfl,hl,h⟩:=h.of_agg
 congr 2
 apply nP;intro j;cases hj:cs[j]? with
 | none=>
  grind
 | some c=>
  obtain⟨u,h1,h2⟩:=h j c hj;rw[hv,cz]at hj;simp only[cq]at hj;obtain⟨c',h3,rfl⟩:=hj;rw[h1,cz,h3,h2.of_val];rfl
def ad7{x:C}{u:Value}{b:Bool}(hx:aF X m st w x u)(h:OZ x=some b):∃a len k,u=.slice a len k/\(b=true↔a=none):=by
 cases x with
 | val v=>
  obtain rfl:=hx.of_val;simp only[OZ]at h
  grind
 | sl own nl es cap rows=>
  obtain⟨d,hx⟩:=hx;cases d with
  | zero=>exact hx.elim
  | succ d=>
   obtain⟨a,k,h1,h2,h3,h4,hz,h5,h6,h7⟩:=hx;refine⟨a,_,k,h1,?_⟩;cases nl with
   | some b'=>simp only[OZ,cc]at h;subst h;exact hz.1 _ rfl
   | none=>
    grind[OZ]
 | pal n p lo len cap=>
  obtain⟨d,hx⟩:=hx;cases d with
  | zero=>exact hx.elim
  | succ d=>
   obtain⟨nl,es,cap',rows,a,k,a',k',g1,g2,g3,g4,g5,g6,g7,g8,g9⟩:=hx
   grind[OZ]
 | _=>simp[OZ]at h
theorem JC(t:TypeId)(x y:Value):Op.equal t x y=Op.equalIn (9999+1) t x y:=rfl
def ZK{t:TypeId}(hd:P.underlying t=some .bool)(a b:Bool):(Op.equal t (.bool a) (.bool b)).run P w=.ok (a == b) w:=by
 rw[JC,Op.equalIn];simp[run_underlying hd]
def aaL{t e:TypeId}(hd:P.underlying t=some (.slice e))(a:Option Addr)(len k:Nat):(Op.equal t (.slice a len k) (.slice none 0 0)).run P w=.ok a.isNone w:=by
 rw[JC,Op.equalIn];cases a<;>simp[run_underlying hd]
def aez{E:Env}(hT:TOk P E){t:Nat}{op:BinOp}{x y c:C}{u v:Value}(hx:aF X m st w x u)(hy:aF X m st w y v)(hc:Pa (E.T t) op x y=some c)(ox oy:Operand):
  ∃r,(do eqGuard op t ox oy u v;binOp op t u v:Sem Value).run P w=.ok r w/\c=.val r:=by
 have guard0:∀(x y:Value),x≠.nilIface->(∀xs,x≠.agg xs)->(eqGuard op t ox oy x y).run P w=.ok () w:=by
  simp_all[eqGuard]
 unfold Pa at hc;split at hc
 .obtain rfl:=hx.of_val;obtain rfl:=hy.of_val;split at hc
  .rename_i k a k' b ox1 c0 hs;obtain rfl:=cX hc;obtain⟨r,h1,h2⟩:=abu (P:=P) (w:=w) (yk:=k') hs t;exact⟨r,by simp[guard0 (.int k a) (.int k' b) oZk oZk,h1],h2⟩
  simp_all[aa2]
 .obtain rfl:=hx.of_val;obtain rfl:=hy.of_val
  simp_all[abv]
 .obtain rfl:=hx.of_val;obtain rfl:=hy.of_val;split at hc
  .rename_i ti hti;obtain⟨d,hd,_,hk⟩:=(hT t ti hti).und;split at hc
   .rename_i hkind;rw[hkind]at hk;have hk:d=.bool:=hk;subst hk;have he:=fun a b=>ZK (P:=P) (w:=w) hd a b;cases op<;>simp[MR]at hc<;>subst hc
    .refine⟨_,?_,rfl⟩;rw[Sem.run_bind,guard0 _ _ oZk oZk,Result.andThen_ok];simp only[binOp,Sem.run_bind,he,Result.andThen_ok];rename_i a b _ _;cases a<;>cases b<;>simp
    .refine⟨_,?_,rfl⟩;rw[Sem.run_bind,guard0 _ _ oZk oZk,Result.andThen_ok];simp only[binOp,Sem.run_bind,he,Result.andThen_ok];rename_i a b _ _;cases a<;>cases b<;>simp
   .simp at hc
  .simp at hc
 .rename_i as bs;split at hc
  .rename_i ti hti;split at hc
   .simp at hc
   .rename_i h1;cases heq:dz ti.eqs as bs with
    | none=>simp_all
    | some b=>
     simp only[heq,cb]at hc;obtain⟨g1,g2⟩:=Yt heq;obtain rfl:=hx.of_vals g1;obtain rfl:=hy.of_vals g2;obtain⟨e1,e2⟩:=(hT t ti hti).eqs oZi w _ _ b heq;cases op<;>simp[MR]at hc<;>subst hc
     .exact⟨.bool b,by simp[e1,binOp,e2],rfl⟩
     .exact⟨.bool (!b),by simp[e1,binOp,e2],rfl⟩
  .simp at hc
 .obtain rfl:=hy.of_val;split at hc
  .rename_i ti hti;obtain⟨d,hd,_,hk⟩:=(hT t ti hti).und;split at hc
   .rename_i e es hkind;rw[hkind]at hk;obtain⟨rfl,_⟩:=hk;cases hn:OZ x with
    | none=>simp_all
    | some b=>
     simp only[hn,cb]at hc;obtain⟨a',len,k,rfl,hb⟩:=ad7 hx hn;have he:(Op.equal t (.slice a' len k) (.slice none 0 0)).run P w=.ok b w:=by
      rw[aaL hd]
      congr 1
      cases a' with
      | none=>simp_all
      | some ad=>cases b<;>simp at hb ⊢
     cases op<;>simp[MR]at hc<;>subst hc
     .exact⟨.bool b,by simp[guard0 (.slice a' len k) (.slice none 0 0) oZk oZk,binOp,he],rfl⟩
     .exact⟨.bool (!b),by simp[guard0 (.slice a' len k) (.slice none 0 0) oZk oZk,binOp,he],rfl⟩
   .simp at hc
  .simp at hc
 .simp at hc
def ae5{op:UnOp}{x c:C}{u:Value}(hx:aF X m st w x u)(hc:unC op x=some c):∃r,(Op.unary op u).run P w=.ok r w/\c=.val r:=by
 unfold unC at hc;split at hc
 .obtain rfl:=hx.of_val;split at hc
  .simp only[cc]at hc;subst hc;rename_i b _;exact⟨.bool (!b),by simp[Op.unary],rfl⟩
  .simp at hc
 .obtain rfl:=hx.of_val;split at hc
  .rename_i k n _;simp only[cc]at hc;subst hc;exact⟨.int k (k.wrap (0-n)),by simp[Op.unary,Op.intArith],rfl⟩
  .simp at hc
 .simp at hc
def acx{src t:Nat}{ti:TI}(ht:fc P t ti)(hs:∃d,P.underlying src=some d){x c:C}{u:Value}(hx:aF X m st w x u)(hc:Ps ti x=some c):∃r,(convert src t u).run P w=.ok r w/\c=.val r:=by
 obtain⟨d,hd,_,hk⟩:=ht.und;obtain⟨ds,hs⟩:=hs;unfold Ps at hc;split at hc
 .obtain rfl:=hx.of_val;split at hc
  .rename_i hkind;rw[hkind]at hk;have hk:d=.int _:=hk;subst hk;simp only[cc]at hc;subst hc;exact⟨_,by simp[convert,run_underlying hd,run_underlying hs,Conv.intToInt],rfl⟩
  .simp at hc
 .obtain rfl:=hx.of_val;split at hc
  .rename_i hkind;rw[hkind]at hk;have hk:d=.string:=hk;subst hk;simp only[cc]at hc;subst hc;exact⟨_,by simp[convert,run_underlying hd,run_underlying hs],rfl⟩
  .simp at hc
 .simp at hc
def aet{c:C}{u:Value}{n:Nat}(hx:aF X m st w c u)(hc:AA c=some n):∃k,u=.int k n:=by
 unfold AA at hc;split at hc
 .obtain rfl:=hx.of_val
  grind
 .simp at hc
def Ex{isS:Bool}{len cap:Nat}{capO:Option Nat}{lo hi mx:Option C}{ul uh um:Option Value}{l h:Nat}{c:Option Nat}(hb:wq len capO lo hi mx=some (l,h,c))(hcap:∀k,capO=some k->cap=k)(hle:len<=cap)
  (h1:∀c,lo=some c->∃u,ul=some u/\aF X m st w c u) (h1':lo=none->ul=none) (h2:∀c,hi=some c->∃u,uh=some u/\aF X m st w c u) (h2':hi=none->uh=none)
  (h3:∀c,mx=some c->∃u,um=some u/\aF X m st w c u) (h3':mx=none->um=none):
  ∃mm,(Instr.sliceBounds isS len cap ul uh um).run P w=.ok (l,h,mm) w/\l<=h/\h<=len/\h<=mm/\mm<=cap/\(∀k,c=some k->mm-l=k)/\(c=none->mm=cap):=by
 unfold wq at hb;have sb:∀(c:C) (u:Value) (n y:Nat) (code:BoundsCode),aF X m st w c u->AA c=some n->n<=y->(Instr.sliceBound u y code).run P w=.ok n w:=by
  intro c u n y code hr hn hy;obtain⟨k,rfl⟩:=aet hr hn;simp[Instr.sliceBound,asIntOf,hy]
 split at hb
 .rename_i l' h' hl hh;cases mx with
  | none=>
   obtain rfl:=h3' rfl;simp only at hb;split at hb
   .rename_i hc;simp only[cc,cP]at hb;obtain⟨rfl,rfl,rfl⟩:=hb;refine⟨cap,?_,hc.1,hc.2,oZg,ck _,?_,?_⟩
    .cases hi with
     | none=>
      obtain rfl:=h2' rfl;simp only[cc]at hh;subst hh;cases lo with
      | none=>obtain rfl:=h1' rfl;simp only[cc]at hl;subst hl;simp[Instr.sliceBounds]
      | some cl=>obtain⟨u,rfl,hr⟩:=h1 cl rfl;simp[Instr.sliceBounds,sb cl u _ _ _ hr hl hc.1]
     | some ch=>
      obtain⟨v,rfl,hv⟩:=h2 ch rfl;cases lo with
      | none=>obtain rfl:=h1' rfl;simp only[cc]at hl;subst hl;simp[Instr.sliceBounds,sb ch v _ cap _ hv hh oZg]
      | some cl=>obtain⟨u,rfl,hr⟩:=h1 cl rfl;simp[Instr.sliceBounds,sb cl u _ _ _ hr hl hc.1,sb ch v _ cap _ hv hh oZg]
    .simp_all
    omega
   .simp at hb
  | some cm=>
   obtain⟨um',rfl,hm⟩:=h3 cm rfl;simp only at hb;cases hi with
   | none=>cases hmm:AA cm<;>simp[hmm]at hb
   | some ch=>
    obtain⟨v,rfl,hv⟩:=h2 ch rfl;cases hmm:AA cm with
    | none=>simp_all
    | some mm=>
     simp only[hmm]at hb;split at hb
     .rename_i hc;simp only[cc,cP]at hb;obtain⟨rfl,rfl,rfl⟩:=hb;obtain⟨c1,c2,c3,c4⟩:=hc;have hmc:mm<=cap:=by
       rcases c3 with c3|⟨k,hk,c3⟩
       .omega
       simp_all
      refine⟨mm,?_,c1,c4,c2,hmc,oZk,oZk⟩;cases lo with
      | none=>obtain rfl:=h1' rfl;simp only[cc]at hl;subst hl;simp[Instr.sliceBounds,sb cm um' _ cap _ hm hmm hmc,sb ch v _ mm _ hv hh c2]
      | some cl=>obtain⟨u,rfl,hr⟩:=h1 cl rfl;simp[Instr.sliceBounds,sb cm um' _ cap _ hm hmm hmc,sb ch v _ mm _ hv hh c2,sb cl u _ _ _ hr hl c1]
     .simp at hb
 .simp at hb
end
end Go.Abs
set_option linter.unusedVariables false
namespace Go.Abs
section
variable {X:Ctx} {m:Nat->aq->Value} {st:St} {a:Act} {w:World} {P:Program}
def eD{n:Nat}{p:aq}{lo len:Nat}{cap:Option Nat}{u:Value}(h:aF X m st w (.pal n p lo len cap) u):Lv st.roots m (.pal n p lo len cap) u:=by
 obtain⟨d,h⟩:=h;cases d with
 | zero=>exact h.elim
 | succ d=>exact h
def pf{n:Nat}{p:aq}{i j:Nat}{u:Value}(h:aF X m st w (.pref n p i j) u):Lv st.roots m (.pref n p i j) u:=by
 obtain⟨d,h⟩:=h;cases d with
 | zero=>exact h.elim
 | succ d=>exact h
def Be{own:Bool}{nl:Option Bool}{es:Nat}{cap:Option Nat}{rows:List (List C)}{u:Value}(h:aF X m st w (.sl own nl es cap rows) u):
  ∃a k,u=.slice a rows.length k/\rows.length<=k/\k<=maxLen/\(∀c,cap=some c->k=c)/\((∀b,nl=some b->(b=true↔a=none))/\(a=none->k=0))/\(∀row∈rows,row.length=es)∧
   (rows=[]∨∃b off arr elem frz,a=some ⟨b,off,none⟩/\w.heap[b]?=some (.cells arr elem frz)/\X.S st.roots m b ∧
    ∃d,∀(i j:Nat) (row:List C) (c':C),rows[i]?=some row->row[j]?=some c'->∃u',arr[off+i*es+j]?=some u'/\rel w (X.S st.roots m) L0 dm false d [] c' u'):=by
 obtain⟨d,h⟩:=h;cases d with
 | zero=>exact h.elim
 | succ d=>
  obtain⟨a,k,h1,h2,h3,h4,hz,h5,h6,h7⟩:=h;refine⟨a,k,h1,h2,h3,h4,hz,h5,?_⟩;rcases h7 with h7|h7|⟨b,off,arr,elem,frz,g1,g2,g3,g4,g5⟩
  .simp_all
  .simp_all
  .refine .inr ⟨b,off,arr,elem,frz,g1,g2,g3 oZk,d,?_⟩;intro i j row c' e1 e2;obtain⟨u',e3,e4⟩:=g5 i j row c' e1 e2;simp only[nX]at e4
   grind[bY]
def af4{nl:Option Bool}{es:Nat}{cap:Option Nat}{rows:List (List C)}{a:Option Addr}{k:Nat}
  (h2:rows.length<=k) (h3:k<=maxLen) (h4:∀c,cap=some c->k=c) (hz:(∀b,nl=some b->(b=true↔a=none))/\(a=none->k=0)) (h5:∀row∈rows,row.length=es)
  (h7:rows=[]∨∃b off arr elem frz,a=some ⟨b,off,none⟩/\w.heap[b]?=some (.cells arr elem frz)/\X.S st.roots m b ∧
    ∃d,∀(i j:Nat) (row:List C) (c':C),rows[i]?=some row->row[j]?=some c'->∃u',arr[off+i*es+j]?=some u'/\rel w (X.S st.roots m) L0 dm false d [] c' u'):
  aF X m st w (.sl false nl es cap rows) (.slice a rows.length k):=by
 rcases h7 with h7|⟨b,off,arr,elem,frz,g1,g2,g3,d,g5⟩
 .exact⟨1,a,k,rfl,h2,h3,h4,hz,h5,oZk,.inr (.inl ⟨rfl,h7⟩)⟩
 .refine⟨d+1,a,k,rfl,h2,h3,h4,hz,h5,oZk,.inr (.inr ⟨b,off,arr,elem,frz,g1,g2,fun _=>g3,oZk,?_⟩)⟩
  grind[bY]
def XK(h:av X m st a w){t:Nat}{ti:TI}(ht:fc P t ti){x ix c:C}{u v:Value}(hx:aF X m st w x u)(hix:aF X m st w ix v)(hc:lU st ti x ix=some c):
  ∃r,(Instr.indexAt t u v).run P w=.ok r w/\aF X m st w c r:=by
 obtain⟨d,hd,hagg,hk⟩:=ht.und;unfold lU at hc;split at hc
 .rename_i e es k i hkind;rw[hkind]at hk;obtain⟨rfl,ie,hi1,hi2⟩:=hk;obtain rfl:=hix.of_val;have hsz:(sizeOf e).run P w=.ok es w:=by simp_all[sizeOf,typeInfo]
  split at hc
  .rename_i n p lo len cap;split at hc
   .rename_i nl es' cap' rows hn;split at hc
    .rename_i hcond;obtain⟨hes,h0,h1⟩:=hcond;obtain rfl:=hes.symm;simp only[cc]at hc;subst hc;obtain⟨nl',es',cap'',rows',a0,k0,a',k',g1,g2,g3,rfl,g5,g6,g7,g8,g9⟩:=eD hx;have hn':(st.roots n).at p=some (.sl true nl es cap' rows):=hn;rw[hn']at g1;simp only[cc,C.sl.injEq,true_and]at g1;obtain⟨rfl,rfl,rfl,rfl⟩:=g1;rcases g9 with g9|⟨b,off,rfl,rfl⟩
     .omega
     .refine⟨.pointer (some ⟨b,off+lo*es+i.toNat*es,none⟩),?_,1,nl,es,cap',rows,b,off,k0,hn',g2,?_⟩
      .simp_all[Instr.indexAt,asIntOf,run_underlying,Addr.add_lit]
      grind
    .simp at hc
   .simp at hc
  .rename_i own nl es' cap rows;split at hc
   .rename_i hcond;obtain⟨hes,h0,h1⟩:=hcond;obtain rfl:=hes.symm;simp only[cc]at hc;subst hc;obtain⟨a0,k0,rfl,g2,g3,g4,gz,g5,g6⟩:=Be hx;rcases g6 with rfl|⟨b,off,arr,elem,frz,rfl,e2,e3,dd,e5⟩
    .grind
    .refine⟨.pointer (some ⟨b,off+i.toNat*es,none⟩),?_,dd+1,b,off,arr,elem,frz,oZk,e2,e3,g5,fun i j row c' f1 f2=>?_⟩
     .simp_all[Instr.indexAt,asIntOf,run_underlying,Addr.add_lit]
     simp_all
   .simp at hc
  .simp at hc
 .rename_i n e es k i hkind;rw[hkind]at hk;obtain⟨rfl,ie,hi1,hi2⟩:=hk;obtain rfl:=hix.of_val;have hsz:(sizeOf e).run P w=.ok es w:=by simp_all[sizeOf,typeInfo]
  split at hc
  .rename_i hcond;obtain⟨h0,h1⟩:=hcond;have hrun:∀b o,(Instr.indexAt t (.pointer (some ⟨b,o,none⟩)) (.int k i)).run P w=.ok (.pointer (some ⟨b,o+i.toNat*es,none⟩)) w:=by
    simp_all[Instr.indexAt,asIntOf,run_underlying,Instr.sureAddr,Addr.add_lit]
   split at hc
   .simp only[cc]at hc;subst hc;obtain⟨nl',es',cap',rows',b',off',k',f1,f2,rfl⟩:=pf hx;exact⟨_,hrun _ _,1,nl',es',cap',rows',b',off',k',f1,f2,oZi⟩
   .simp only[cc]at hc;subst hc;obtain⟨d,hx⟩:=hx;cases d with
    | zero=>exact hx.elim
    | succ d=>
     obtain⟨b,off,arr,elem,frz,rfl,g2⟩:=hx;exact⟨_,hrun _ _,d+1,b,off,arr,elem,frz,oZi,g2⟩
   .simp at hc
  .simp at hc
 .simp at hc
def acP{E:Env}(hT:TOk P E){t:Nat}{ti:TI}(ht:fc P t ti){x ix c:C}{u v:Value}(hx:aF X m st w x u)(hix:aF X m st w ix v)(hc:KW E ti x ix=some c):
  ∃r,(Instr.index t u v).run P w=.ok r w/\aF X m st w c r:=by
 obtain⟨d,hd,hagg,hk⟩:=ht.und;unfold KW at hc;split at hc
 .rename_i s k i hkind;rw[hkind]at hk;have hk:d=.string:=hk;subst hk;obtain rfl:=hix.of_val;obtain rfl:=hx.of_val;split at hc
  .rename_i h0;split at hc
   .rename_i b hb;simp only[cc]at hc;subst hc;exact⟨.int .u8 b.toNat,by simp_all[Instr.index,asIntOf,run_underlying],.val⟩
   .simp at hc
  .simp at hc
 .rename_i n e es cs k i hkind;rw[hkind]at hk;obtain⟨rfl,ie,hi1,hi2⟩:=hk;obtain rfl:=hix.of_val;split at hc
  case h_2=>simp at hc
  rename_i te hte;split at hc
  .rename_i hcond;obtain⟨hte2,rfl,h0,h1⟩:=hcond;split at hc
   .rename_i v' hv;simp only[cc]at hc;subst hc;obtain⟨us,rfl,hl,hh⟩:=hx.of_agg;obtain⟨u',e1,e2⟩:=hh _ _ hv;obtain rfl:=e2.of_val;have hpart:(part e us.toArray (i.toNat*1)).run P w=.ok u' w:=by
     unfold part;have:(isAgg e).run P w=.ok false w:=by rw[<-hte2];exact(hT e te hte).agg_run
     simp_all
    simp_all[sizeOf,typeInfo,Instr.index,asIntOf,run_underlying]
   .simp at hc
  .simp at hc
 .simp at hc
def WC(h:av X m st a w)(o:Option Operand):(∀c,(o.map st.ev)=some c->∃u,(o.map a.eval)=some u/\aF X m st w c u)/\((o.map st.ev)=none->(o.map a.eval)=none):=by
 cases o with
 | none=>simp
 | some x=>simp[bo h x]
def acX(h:av X m st a w){t:Nat}{ti:TI}(ht:fc P t ti){x c:C}{u:Value}{lo hi mx:Option Operand}(hx:aF X m st w x u)(hc:Gr st ti x (lo.map st.ev) (hi.map st.ev) (mx.map st.ev)=some c):
  ∃r,(Instr.sliceAt t u (lo.map a.eval) (hi.map a.eval) (mx.map a.eval)).run P w=.ok r w/\aF X m st w c r:=by
 obtain⟨d,hd,hagg,hk⟩:=ht.und;obtain⟨l1,l1'⟩:=WC h lo;obtain⟨l2,l2'⟩:=WC h hi;obtain⟨l3,l3'⟩:=WC h mx;unfold Gr at hc;split at hc
 .rename_i s hkind;rw[hkind]at hk;have hk:d=.string:=hk;subst hk;obtain rfl:=hx.of_val;split at hc
  .rename_i hmx;split at hc
   .rename_i l hh c' hb;simp only[cc]at hc;subst hc;rw[<-hmx]at hb;obtain⟨mm,e1,_⟩:=Ex (P:=P) (isS:=false) hb (cap:=s.size) oZk (ck _) l1 l1' l2 l2' l3 l3';have hn:=l3' hmx;refine⟨.string (s.extract l hh),?_,.val⟩
    simp_all[Instr.sliceAt,run_underlying,Instr.slice]
   .simp at hc
  .simp at hc
 .rename_i e es n p lo0 len0 cap0 hkind;rw[hkind]at hk;obtain⟨rfl,ie,hi1,hi2⟩:=hk;have hsz:(sizeOf e).run P w=.ok es w:=by simp_all[sizeOf,typeInfo]
  split at hc
  .rename_i nl es' cap' rows hn;split at hc
   .rename_i hes;obtain rfl:=hes.symm;split at hc
    .rename_i l hh c' hb;simp only[cc]at hc;subst hc;obtain⟨nl',es'',cap'',rows',a0,k0,a',k',g1,g2,g3,rfl,g5,g6,g7,g8,g9⟩:=eD hx;have hn':(st.roots n).at p=some (.sl true nl es cap' rows):=hn;rw[hn']at g1;simp only[cc,C.sl.injEq,true_and]at g1;obtain⟨rfl,rfl,rfl,rfl⟩:=g1;obtain⟨mm,e1,e2,e3,e4,e5,e6,e7⟩:=Ex (P:=P) (isS:=true) hb (cap:=k') g7 g5 l1 l1' l2 l2' l3 l3';have hrun:(Instr.sliceAt t (.slice a' len0 k') (lo.map a.eval) (hi.map a.eval) (mx.map a.eval)).run P w=.ok (.slice (if mm=l then a' else a'.map (·.add (l*es))) (hh-l) (mm-l)) w:=by
      simp_all[Instr.sliceAt,run_underlying,Instr.slice]
     refine⟨_,hrun,1,nl,es,cap',rows,a0,k0,(if mm=l then a' else a'.map (·.add (l*es))),mm-l,hn',g2,oZg,rfl,oZg,oZg,?_,?_,?_⟩
     .exact e6
     .intro hcn;have:=e7 hcn;subst this;have:cap0=none:=by
       cases hm:mx with
       | some _=>rw[hm]at hb;unfold wq at hb;grind
       | none=>
        rw[hm]at hb;unfold wq at hb;simp only[Option.map_none]at hb;split at hb
        .simp_all
        .simp at hb
      grind
     .by_cases hz:mm=l
      .left;omega
      .rcases g9 with g9|⟨b,off,rfl,rfl⟩
       .left;omega
       .right;refine⟨b,off,rfl,?_⟩;simp[hz,Addr.add_lit,nH,nw]
    .simp at hc
   .simp at hc
  .simp at hc
 .rename_i e es own nl es' cap rows hkind;rw[hkind]at hk;obtain⟨rfl,ie,hi1,hi2⟩:=hk;have hsz:(sizeOf e).run P w=.ok es w:=by simp_all[sizeOf,typeInfo]
  split at hc
  .rename_i hes;obtain rfl:=hes.symm;split at hc
   .rename_i l hh c' hb;simp only[cc]at hc;subst hc;obtain⟨a0,k0,rfl,g2,g3,g4,gz,g5,g6⟩:=Be hx;obtain⟨mm,e1,e2,e3,e4,e5,e6,e7⟩:=Ex (P:=P) (isS:=true) hb (cap:=k0) g4 g2 l1 l1' l2 l2' l3 l3';have hrun:(Instr.sliceAt t (.slice a0 rows.length k0) (lo.map a.eval) (hi.map a.eval) (mx.map a.eval)).run P w=.ok (.slice (if mm=l then a0 else a0.map (·.add (l*es))) (hh-l) (mm-l)) w:=by
     simp_all[Instr.sliceAt,run_underlying,Instr.slice]
    refine⟨_,hrun,?_⟩;have hl:((rows.drop l).take (hh-l)).length=hh-l:=oZd
    suffices hs:aF X m st w (.sl false nl es c' ((rows.drop l).take (hh-l))) (.slice (if mm=l then a0 else a0.map (·.add (l*es))) ((rows.drop l).take (hh-l)).length (mm-l)) by simp_all
    refine af4 (rows:=(rows.drop l).take (hh-l)) oZg oZg e6 ⟨?_,?_⟩ ?_ ?_
    .intro b hb;have:=gz.1 b hb;rw[this];by_cases hz:mm=l<;>simp[hz]
    .intro hn;have:a0=none:=by
      by_cases hz:mm=l
      .simp_all
      simp_all
     simp_all
    .grind
    .rcases g6 with rfl|⟨b,off,arr,elem,frz,rfl,f2,f3,dd,f5⟩
     .left;simp
     .by_cases hz:hh-l=0
      .simp_all
      .right;have hml:mm≠l:=oZg;refine⟨b,off+l*es,arr,elem,frz,by simp[hml,Addr.add_lit],f2,f3,dd,?_⟩
       grind
   .simp at hc
  .simp at hc
 .rename_i e es hkind;rw[hkind]at hk;obtain⟨rfl,ie,hi1,hi2⟩:=hk;have hsz:(sizeOf e).run P w=.ok es w:=by simp_all[sizeOf,typeInfo]
  obtain rfl:=hx.of_val;split at hc
  .rename_i bb hb;obtain⟨l,hh,c'⟩:=bb;simp only[cc]at hc;subst hc;obtain⟨mm,e1,e2,e3,e4,e5,e6,e7⟩:=Ex (P:=P) (isS:=true) hb (cap:=0) oZk (ck _) l1 l1' l2 l2' l3 l3'
   simp_all[Instr.sliceAt,run_underlying,Instr.slice]
  .simp at hc
 .simp at hc
end
end Go.Abs
namespace Go.Abs
section
variable {X:Ctx} {m:Nat->aq->Value} {st:St} {a:Act} {w:World} {P:Program}
def Ph{c:C}{u:Value}(h:aF X m st w c u)(hc:c.oneC=true):u.oneCell'=true:=by
 obtain⟨d,h⟩:=h;cases d with
 | zero=>exact h.elim
 | succ d=>
  cases c with
  | val v=>have:u=v:=h;subst this;exact hc
  | sl own nl es cap rows=>obtain⟨a,k,rfl,_⟩:=h;rfl
  | clo f cs=>obtain⟨arr,rfl,_⟩:=h;unfold H7;split<;>rfl
  | iref es rows i j=>obtain⟨b,off,arr,elem,frz,rfl,_⟩:=h;rfl
  | pref n p i j=>obtain⟨_,_,_,_,_,_,_,_,_,rfl⟩:=h;rfl
  | pal n p lo len cap=>obtain⟨_,_,_,_,_,_,_,_,_,_,_,rfl,_⟩:=h;rfl
  | _=>grind[C.oneC]
def abd{u:Value}(h:u.oneCell'=true):u.cells=#[u]:=by
 cases u<;>first|rfl|simp[Value.oneCell']at h
def Jk{ti:TI}{c:C}{cs:List C}{u:Value}(h:aF X m st w c u)(hc:wy ti c=some cs):
  cs.length=ti.size/\u.cells.toList.length=cs.length/\∀(j:Nat) (c:C),cs[j]?=some c->∃v,u.cells.toList[j]?=some v/\aF X m st w c v:=by
 unfold wy at hc;split at hc
 .split at hc
  .split at hc
   .rename_i hl;simp only[cc]at hc;subst hc;obtain⟨us,rfl,h1,h2⟩:=h.of_agg
    simp_all[Value.cells]
   .simp at hc
  .simp at hc
 .split at hc
  .rename_i hs;simp only[cc]at hc;subst hc;have:=abd (Ph h hs.2)
   grind
  .simp at hc
def Oh(off:Nat):∀(vs:List Value) (j0:Nat) (cells:Array Value),off+j0+vs.length<=cells.size ->
  ((vs.zipIdx j0).foldl (fun cs (x:Value×Nat)=>cs.setIfInBounds (off+x.2) x.1) cells).size=cells.size ∧
  ∀k:Nat,((vs.zipIdx j0).foldl (fun cs (x:Value×Nat)=>cs.setIfInBounds (off+x.2) x.1) cells)[k]?=if off+j0<=k/\k<off+j0+vs.length then vs[k -(off+j0)]? else cells[k]?:=by
 intro vs
 induction vs with
 | nil=>intro j0 cells _;simp;omega
 | cons v vs ih=>
  intro j0 cells hl;simp only[aiY,xA]
  grind
def abB(cs:List C)(o:Nat)(new:List C)(h:o+new.length<=cs.length)(k:Nat):(JD cs o new)[k]?=if o<=k/\k<o+new.length then new[k-o]? else cs[k]?:=by
 unfold JD;by_cases h1:k<o
 .grind
 grind
def VZ(cs:List C)(o:Nat)(new:List C)(h:o+new.length<=cs.length):(JD cs o new).length=cs.length:=by
 grind[JD]
def Rd(X:Ctx)(m:Nat->aq->Value)(st:St)(w:World)(cs:List C)(us:Array Value):Prop:=
 us.size=cs.length/\∀(j:Nat) (c:C),cs[j]?=some c->∃v,us[j]?=some v/\aF X m st w c v
def ac9{place:Nat->Option (Nat×Nat)}{i off size:Nat}{v:Value}{rest:List (Nat×Value)}{cells:Array Value}(hp:place i=some (off,size))(hs:v.cells.size=size)(hl:off+size<=cells.size):
  Instr.fill place cells ((i,v)::rest)=Instr.fill place ((v.cells.toList.zipIdx).foldl (fun cs (x:Value×Nat)=>cs.setIfInBounds (off+x.2) x.1) cells) rest:=by
 simp only[Instr.fill,hp];rw[if_neg oZf]
 congr 1
 rw[<-aiZ,ai0]
def LR{E:Env}(h:av X m st a w){ti:TI}{place:Nat->Option (Nat×Nat)}
  (hplace:∀i o s,(match ti.kind with
   | .struct fs=>∃t',fs[i]?=some (o,t')/\∃ti',E.T t'=some ti'/\s=ti'.size
   | .arr _ e es=>o=i*es/\∃ti',E.T e=some ti'/\s=ti'.size/\s=es
   | _=>False)->place i=some (o,s)):
  ∀(parts:List (Nat×Operand)) (cs:List C) (us:Array Value) (out:List C),Rd X m st w cs us->tF E ti (parts.map fun x=>(x.1,st.ev x.2)) cs=some out ->
   ∃us',Instr.fill place us (parts.map fun x=>(x.1,a.eval x.2))=some us'/\Rd X m st w out us':=by
 intro parts
 induction parts with
 | nil=>
  intro cs us out hr hb;simp only[nA,tF,cc]at hb;subst hb;exact⟨us,rfl,hr⟩
 | cons x parts ih=>
  intro cs us out hr hb;obtain⟨i,x⟩:=x;simp only[hC,tF]at hb;have one:∀(o:Nat) (t':Nat) (ti':TI) (new:List C),E.T t'=some ti'->wy ti' (st.ev x)=some new->place i=some (o,ti'.size)->o+new.length<=cs.length ->
    tF E ti (parts.map fun x=>(x.1,st.ev x.2)) (JD cs o new)=some out->∃us',Instr.fill place us ((i,a.eval x)::parts.map fun x=>(x.1,a.eval x.2))=some us'/\Rd X m st w out us':=by
   intro o t' ti' new hti' hun hp hl hb;obtain⟨e1,e2,e3⟩:=Jk (bo h x) hun;have hsz:(a.eval x).cells.size=ti'.size:=oZf;rw[ac9 hp hsz (by rw[hr.1];omega)];refine ih _ _ _ ?_ hb;obtain⟨g1,g2⟩:=Oh o (a.eval x).cells.toList 0 us (by rw[hr.1];omega);refine⟨by rw[g1,hr.1,VZ _ _ _ hl],?_⟩;intro j c hj;rw[g2 j];rw[abB _ _ _ hl]at hj;simp only[xz,xJ,hsz];by_cases hc:o<=j/\j<o+new.length
   .simp_all
   .rw[if_neg hc]at hj;rw[if_neg oZg];exact hr.2 j c hj
  split at hb
  .rename_i fs hkind;split at hb
   .rename_i o t' hfs;split at hb
    .rename_i new hnew;split at hb
     .rename_i hl;cases hti:E.T t' with
      | none=>simp_all
      | some ti'=>
       simp only[hti,cb]at hnew;exact one o t' ti' new hti hnew (hplace i o ti'.size oZf) hl hb
     .simp at hb
    .simp at hb
   .simp at hb
  .rename_i n e es hkind;split at hb
   .rename_i new hnew;split at hb
    .rename_i hl;cases hti:E.T e with
     | none=>simp_all
     | some ti'=>
      simp only[hti,cb]at hnew;have hs:=(Jk (bo h x) hnew).1
      grind
    .simp at hb
   .simp at hb
  .simp at hb
def ZN{E:Env}(hT:TOk P E)(h:av X m st a w){b:Builtin}{args:Array Operand}{argTypes:Array TypeId}{ty:TypeId}{consts:Array Bool}{c:C}(hc:ov ((argTypes[0]?).bind E.T) b (args.toList.map st.ev)=some c):
  ∃v,(builtin b argTypes ty consts (args.map a.eval)).run P w=.ok (.value v) w/\aF X m st w c v:=by
 have hmap:(args.map a.eval).toList=args.toList.map a.eval:=oZk;have hev:=N5 h args.toList;generalize hus:args.toList.map a.eval=us at hmap hev;generalize hcs:args.toList.map st.ev=cs at hc hev;have hlen:us.length=cs.length:=oZi;have harr:args.map a.eval=us.toArray:=by rw[<-hmap]
 rw[harr];unfold ov at hc;split at hc
 .rename_i s;obtain⟨u,h1,h2⟩:=hev 0 _ rfl;obtain rfl:=h2.of_val;cases us with
  | nil=>simp at hlen
  | cons u0 us=>
   simp only[cG,cc]at h1;subst h1;split at hc
   .rename_i ti hti;obtain⟨t,ht0,hti⟩:=cv.1 hti;obtain⟨d,hd,_,hk⟩:=(hT t ti hti).und;split at hc
    .rename_i hkind;rw[hkind]at hk;have hk:d=.string:=hk;subst hk;simp only[cc]at hc;subst hc;exact⟨_,by simp[builtin,Builtin.len_,ht0,run_underlying hd,goInt],.val⟩
    .simp at hc
   .simp at hc
 .rename_i x _;obtain⟨u,h1,h2⟩:=hev 0 _ rfl;cases us with
  | nil=>simp at hlen
  | cons u0 us=>
   simp only[cG,cc]at h1;subst h1;split at hc
   .rename_i ti hti;obtain⟨t,ht0,hti⟩:=cv.1 hti;obtain⟨d,hd,_,hk⟩:=(hT t ti hti).und;split at hc
    .rename_i e es hkind;rw[hkind]at hk;obtain⟨rfl,_⟩:=hk;cases hl:z7 x with
     | none=>simp_all
     | some n=>
      simp only[hl,cc]at hc;subst hc;have:∃ad k,u0=.slice ad n k:=by
       cases x with
       | val v=>
        obtain rfl:=h2.of_val
        grind[z7]
       | sl own nl es cap rows=>
        obtain⟨a0,k0,rfl,_⟩:=Be h2
        simp_all[z7]
       | pal n' p lo len cap=>
        obtain⟨nl',es'',cap'',rows',a0,k0,a',k',g1,g2,g3,rfl,_⟩:=eD h2
        simp_all[z7]
       | _=>grind[z7]
      obtain⟨ad,k,rfl⟩:=this;exact⟨_,by simp[builtin,Builtin.len_,ht0,run_underlying hd,goInt],.val⟩
    .simp at hc
   .simp at hc
 .rename_i x;obtain⟨u,h1,h2⟩:=hev 0 _ rfl;cases us with
  | nil=>simp at hlen
  | cons u0 us=>
   simp only[cG,cc]at h1;subst h1;split at hc
   .rename_i ti hti;obtain⟨t,ht0,hti⟩:=cv.1 hti;obtain⟨d,hd,_,hk⟩:=(hT t ti hti).und;split at hc
    .rename_i e es hkind;rw[hkind]at hk;obtain⟨rfl,_⟩:=hk;cases hl:Rh x with
     | none=>simp_all
     | some n=>
      simp only[hl,cc]at hc;subst hc;have:∃ad l,u0=.slice ad l n:=by
       cases x with
       | val v=>
        obtain rfl:=h2.of_val
        grind[Rh]
       | sl own nl es cap rows=>
        obtain⟨a0,k0,rfl,_,_,g4,_⟩:=Be h2
        simp_all[Rh]
       | pal n' p lo len cap=>
        obtain⟨nl',es'',cap'',rows',a0,k0,a',k',g1,g2,g3,rfl,_,_,g7,_⟩:=eD h2
        simp_all[Rh]
       | _=>grind[Rh]
      obtain⟨ad,k,rfl⟩:=this;exact⟨_,by simp[builtin,Builtin.cap_,ht0,run_underlying hd,goInt],.val⟩
    .simp at hc
   .simp at hc
 .rename_i k x rest;cases us with
  | nil=>simp at hlen
  | cons u0 us=>
   obtain⟨u,h1,h2⟩:=hev 0 _ rfl;simp only[cG,cc]at h1;subst h1;obtain rfl:=h2.of_val;have key:∀(rest:List C) (us:List Value) (x:Int),us.length=rest.length->(∀(j:Nat) (c:C),rest[j]?=some c->∃u,us[j]?=some u/\aF X m st w c u)->pW (fun x y=>if y<x then y else x) k x rest=some c ->
     ∃v,(us.foldlM Builtin.min2 (.int k x)).run P w=.ok v w/\aF X m st w c v:=by
    intro rest
    induction rest with
    | nil=>intro us x hl hh hf;cases us with
     | nil=>simp only[pW,cc]at hf;subst hf;exact⟨_,oZk,.val⟩
     | cons _ _=>simp at hl
    | cons y rest ih=>
     intro us x hl hh hf;cases us with
     | nil=>simp at hl
     | cons v us=>
      obtain⟨v',e1,e2⟩:=hh 0 y rfl;simp only[cG,cc]at e1;subst e1;cases y with
      | val yv=>
       obtain rfl:=e2.of_val;cases v with
       | int k' y=>
        simp only[pW]at hf;split at hf
        .obtain⟨r,f1,f2⟩:=ih us _ oZf (fun j c hc=>by simpa using hh (j+1) c oZf) hf
         simp_all[Builtin.min2]
        .simp at hf
       | _=>simp[pW]at hf
      | _=>simp[pW]at hf
   obtain⟨v,f1,f2⟩:=key rest us x oZf (fun j c hc=>by simpa using hev (j+1) c oZf) hc
   simp_all[builtin,Builtin.min_]
 .rename_i k x rest;cases us with
  | nil=>simp at hlen
  | cons u0 us=>
   obtain⟨u,h1,h2⟩:=hev 0 _ rfl;simp only[cG,cc]at h1;subst h1;obtain rfl:=h2.of_val;have key:∀(rest:List C) (us:List Value) (x:Int),us.length=rest.length->(∀(j:Nat) (c:C),rest[j]?=some c->∃u,us[j]?=some u/\aF X m st w c u)->pW (fun x y=>if y>x then y else x) k x rest=some c ->
     ∃v,(us.foldlM Builtin.max2 (.int k x)).run P w=.ok v w/\aF X m st w c v:=by
    intro rest
    induction rest with
    | nil=>intro us x hl hh hf;cases us with
     | nil=>simp only[pW,cc]at hf;subst hf;exact⟨_,oZk,.val⟩
     | cons _ _=>simp at hl
    | cons y rest ih=>
     intro us x hl hh hf;cases us with
     | nil=>simp at hl
     | cons v us=>
      obtain⟨v',e1,e2⟩:=hh 0 y rfl;simp only[cG,cc]at e1;subst e1;cases y with
      | val yv=>
       obtain rfl:=e2.of_val;cases v with
       | int k' y=>
        simp only[pW]at hf;split at hf
        .obtain⟨r,f1,f2⟩:=ih us _ oZf (fun j c hc=>by simpa using hh (j+1) c oZf) hf
         simp_all[Builtin.max2]
        .simp at hf
       | _=>simp[pW]at hf
      | _=>simp[pW]at hf
   obtain⟨v,f1,f2⟩:=key rest us x oZf (fun j c hc=>by simpa using hev (j+1) c oZf) hc
   simp_all[builtin,Builtin.max_]
 .simp at hc
end
end Go.Abs
namespace Go.Abs
section
variable {X:Ctx} {m:Nat->aq->Value} {st:St} {a:Act} {w:World} {P:Program}
def Sy:∀{rows:List (List C)} {ns:List Int},K6 rows=some ns->ns.length=rows.length/\∀(i:Nat) (n:Int),ns[i]?=some n->rows[i]?=some [.val (.int .u8 n)]
 | [],ns,h=>by
  simp_all[K6,cc]
 | r::rs,ns,h=>by
  simp only[K6]at h;split at h
  .rename_i n l h1 h2;simp only[cc]at h;subst h;obtain⟨g1,g2⟩:=Sy h2;refine⟨by simp[g1],?_⟩;intro i k hk;cases i with
   | zero=>
    simp only[cG,cc]at hk ⊢;subst hk;unfold ZO at h1
    grind
   | succ i=>simp_all
  .simp at h
def aeh{E:Env}(hT:TOk P E)(h:av X m st a w){src dst:TypeId}{x c:C}{u:Value}(hx:aF X m st w x u)(hc:Rb E st src dst x=some c):∃r,(convert src dst u).run P w=.ok r w/\c=.val r:=by
 unfold Rb at hc;split at hc
 case h_2=>simp at hc
 rename_i ts td hts htd;split at hc
 case h_2=>simp at hc
 rename_i e hkd hks;split at hc
 case h_2=>simp at hc
 rename_i te hte;split at hc
 case h_2=>simp at hc
 rename_i hke;split at hc
 case h_2=>simp at hc
 rename_i rows hrows;split at hc
 case h_2=>simp at hc
 rename_i ns hns;simp only[cc]at hc;subst hc;obtain⟨d1,hd1,_,hk1⟩:=(hT src ts hts).und;rw[hks]at hk1;obtain⟨rfl,_⟩:=hk1;obtain⟨d2,hd2,_,hk2⟩:=(hT dst td htd).und;rw[hkd]at hk2;have hk2:d2=.string:=hk2;subst hk2;obtain⟨d3,hd3,_,hk3⟩:=(hT e te hte).und;rw[hke]at hk3;have hk3:d3=.int .u8:=hk3;subst hk3;obtain⟨hnl,hng⟩:=Sy hns;refine⟨.string (Yj ns),?_,rfl⟩;have fin:∀(b off k:Nat) (arr:Array Value) (elem:TypeId) (fz:Nat×Nat),w.heap[b]?=some (.cells arr elem fz) ->
   (∀(i:Nat) (n:Int),ns[i]?=some n->arr[off+i]?=some (.int .u8 n))->(convert src dst (.slice (some ⟨b,off,none⟩) rows.length k)).run P w=.ok (.string (Yj ns)) w:=by
  intro b off k arr elem fz hb hcell;rw[run_convert_bytes_string w src dst e _ _ _ hd1 hd3 hd2];have hlc:=run_loadCells_list (P:=P) (w:=w) ⟨b,off,none⟩ (ns.map (Value.int .u8)) (by
   intro j v hj;simp only[cz,cq]at hj;obtain⟨n,h1,rfl⟩:=hj
   grind[Addr.add_lit,mu])
  rw[cr,hnl]at hlc;exact run_bytesToString w _ _ k ns hlc
 have empty:∀(ad:Option Addr) (k:Nat),rows=[]->(convert src dst (.slice ad rows.length k)).run P w=.ok (.string (Yj ns)) w:=by
  intro ad k hr;subst hr;have:ns=[]:=nb hnl;subst this;rw[run_convert_bytes_string w src dst e _ _ _ hd1 hd3 hd2];cases ad with
  | none=>simp[Conv.bytesToString,Yj]
  | some ad=>
   have hlc:=run_loadCells_list (P:=P) (w:=w) ad [] oZk;exact run_bytesToString w ad 0 k [] hlc
 unfold LS at hrows;split at hrows
 .rename_i own nl cap rows';simp only[cc]at hrows;subst hrows;obtain⟨a0,k0,rfl,g2,g3,g4,gz,g5,g6⟩:=Be hx;rcases g6 with g6|⟨b,off,arr,elem,frz,rfl,f2,f3,D,f5⟩
  .simp_all
  .refine fin b off k0 arr elem frz f2 fun i n hn=>?_;obtain⟨v,e1,e2⟩:=f5 i 0 _ _ (hng i n hn) rfl;cases D with
   | zero=>exact e2.elim
   | succ D=>
    have:v=.int .u8 n:=e2
    simp_all
 .rename_i n p lo len cap;split at hrows
  .rename_i nl cap' rows0 hn;simp only[cc]at hrows;obtain⟨nl',es'',cap'',rows',a0,k0,a',k',g1,g2,g3,rfl,g5,g6,g7,g8,g9⟩:=eD hx;have hn':(st.roots n).at p=some (.sl true nl 1 cap' rows0):=hn;rw[hn']at g1;simp only[cc,C.sl.injEq,true_and]at g1;obtain⟨rfl,rfl,rfl,rfl⟩:=g1;have hwl:rows.length=len:=oZi;rw[<-hwl];by_cases hl0:rows=[]
   .simp_all
   .have hpos:=nQ.2 hl0;obtain⟨u0,d0,hr0⟩:=h.root n;obtain⟨u1,d1,hr1⟩:=A8 p hr0 hn';simp only[cO]at hr1;obtain⟨a1,k1,D,e1,e2,e3,e4,e5,ez,e6,e7⟩:=ei hr1;rw[g2]at e2;simp only[Value.slice.injEq]at e2;obtain⟨rfl,_,rfl⟩:=e2;rcases g9 with g9|⟨b,off,rfl,rfl⟩
    .omega
    .rcases e7 with e7|⟨b',off',arr,elem,f1,f2,f4,f5⟩
     .omega
     .simp only[cc,Addr.mk.injEq]at f1;obtain⟨rfl,rfl,_⟩:=f1;refine fin b (off+lo*1) k' arr elem (0,0) f2 fun i n hi=>?_;have h1:=hng i n hi;rw[<-hrows,nt]at h1;split at h1
      .rw[nz]at h1;obtain⟨v,f6,f7⟩:=f5 (lo+i) 0 _ _ h1 rfl;cases D with
       | zero=>exact f7.elim
       | succ D=>
        have:v=.int .u8 n:=f7
        grind
      .simp at h1
  simp_all
 simp_all
end
end Go.Abs
namespace Go.Abs
section
variable {X:Ctx} {m:Nat->aq->Value} {st:St} {a:Act} {w:World} {P:Program}
def ada{E:Env}(hT:TOk P E){s:Nat}{ti:TI}(ht:fc P s ti){f:Nat}{x c:C}{u:Value}(hx:aF X m st w x u)(hc:Ry E ti f x=some c):∃v,(Instr.field s u f).run P w=.ok v w/\aF X m st w c v:=by
 obtain⟨d,hd,hagg,hk⟩:=ht.und;unfold Ry at hc;split at hc
 .rename_i fs cs hkind;rw[hkind]at hk;obtain⟨fields,rfl,hf,_⟩:=hk;split at hc
  .rename_i o t hfs;obtain⟨fl,h1,rfl,rfl⟩:=hf f _ _ hfs;split at hc
   .rename_i ft hft;split at hc
    .rename_i hl;obtain⟨us,rfl,g1,g2⟩:=hx.of_agg;have hFT:=hT _ ft hft;unfold HH at hc;have hget:∀(j:Nat) (c:C),((cs.drop fl.offset).take ft.size)[j]?=some c->∃v,((us.drop fl.offset).take ft.size)[j]?=some v/\aF X m st w c v:=by
      grind
     have hrun:(Instr.field s (.agg us.toArray) f).run P w=(part fl.type us.toArray fl.offset).run P w:=by
      simp[Instr.field,run_underlying hd,h1,asAgg]
     rw[hrun];unfold part;cases hagg2:ft.agg with
     | true=>
      simp only[hagg2,if_true,cc]at hc;subst hc;refine⟨.agg (us.toArray.extract fl.offset (fl.offset+ft.size)),by simp[hFT.agg_run,hagg2,hFT.size],?_⟩
      simp_all[aF.agg]
     | false=>
      simp only[hagg2,cS,if_false]at hc;split at hc
      .rename_i c0 hcs;simp only[cc]at hc;subst hc;obtain⟨v,e1,e2⟩:=hget 0 c0 (by rw[hcs];rfl);rw[nt]at e1;split at e1
       .rw[nz]at e1;refine⟨v,by simp[hFT.agg_run,hagg2];simp_all,e2⟩
       .simp at e1
      .simp at hc
    .simp at hc
   .simp at hc
  .simp at hc
 .simp at hc
theorem acY{fields:Array Field}{fs:List (Nat×Nat)}{places:List (Nat×Nat)}{E:Env}(hT:TOk P E)(hf:∀(k o t:Nat),fs[k]?=some (o,t)->∃f,fields[k]?=some f/\f.offset=o/\f.type=t)
  (hp:fields.toList.mapM (fun f=>(P.info? f.type).map fun i=>(f.offset,i.size))=some places) (i o t:Nat) (ti:TI) (h:fs[i]?=some (o,t)) (hti:E.T t=some ti):places[i]?=some (o,ti.size):=by
 obtain⟨f,h1,h2,h3⟩:=hf i o t h;obtain⟨inf,g1,g2,_⟩:=(hT t ti hti).info;have key:∀(l:List Field) (ps:List (Nat×Nat)) (i:Nat),l.mapM (fun f=>(P.info? f.type).map fun i=>(f.offset,i.size))=some ps->l[i]?=some f->ps[i]?=some (o,ti.size):=by
  intro l
  induction l with
  | nil=>simp_all
  | cons x l ih=>
   intro ps i hm hi;simp only[List.mapM_cons,Option.bind_eq_bind,Option.pure_def]at hm;obtain⟨y,hy,hm⟩:=cv.1 hm;obtain⟨ys,hys,hm⟩:=cv.1 hm
   grind
 exact key _ _ i hp oZf
def V6{E:Env}(hT:TOk P E)(h:av X m st a w){o:Oper}{c:C}(hq:qop E st o.op=some c):∃v,(execOp a.eval o).run P w=.ok (.value v) w/\aF X m st w c v:=by
 unfold qop at hq;unfold execOp;cases hop:o.op with
 | move x=>simp only[hop,cc]at hq;subst hq;simp_all[bo]
 | assign x=>simp only[hop,cc]at hq;subst hq;simp_all[bo]
 | pick x y z=>
  simp only[hop]at hq;split at hq
  .rename_i t ht;simp only[cc]at hq;have hx:=bo h x;rw[ht]at hx;have hb:=hx.of_val;subst hq;refine⟨if t then a.eval y else a.eval z,by simp[hb,asBool],?_⟩
   grind[bo]
  .simp at hq
 | load t x=>
  simp only[hop]at hq;obtain⟨ti,h1,h2⟩:=cv.1 hq;obtain⟨v,e1,e2⟩:=Zg h (hT t ti h1) (bo h x) h2
  simp_all
 | fieldAddr s x f=>
  simp only[hop]at hq;obtain⟨ti,h1,h2⟩:=cv.1 hq;obtain⟨v,e1,e2⟩:=WA hT (hT s ti h1) (bo h x) h2
  simp_all
 | field s x f=>
  simp only[hop]at hq;obtain⟨ti,h1,h2⟩:=cv.1 hq;obtain⟨v,e1,e2⟩:=ada hT (hT s ti h1) (bo h x) h2
  simp_all
 | indexAddr t x ix=>
  simp only[hop]at hq;obtain⟨ti,h1,h2⟩:=cv.1 hq;obtain⟨v,e1,e2⟩:=XK h (hT t ti h1) (bo h x) (bo h ix) h2
  simp_all
 | index t x ix=>
  simp only[hop]at hq;obtain⟨ti,h1,h2⟩:=cv.1 hq;obtain⟨v,e1,e2⟩:=acP hT (hT t ti h1) (bo h x) (bo h ix) h2
  simp_all
 | binOp op t x y yt=>
  simp only[hop]at hq;obtain⟨v,e1,rfl⟩:=aez hT (bo h x) (bo h y) hq x y;refine⟨v,?_,.val⟩;simp only[Sem.run_bind]at e1 ⊢
  simp_all
 | unOp op t x=>
  simp only[hop]at hq;obtain⟨v,e1,rfl⟩:=ae5 (P:=P) (bo h x) hq;exact⟨v,by simp[e1],.val⟩
 | convert src dst x=>
  simp only[hop]at hq;split at hq
  .rename_i c' hq';simp only[cc]at hq;subst hq;split at hq'
   .rename_i hs;obtain⟨ti,h1,h2⟩:=cv.1 hq';obtain⟨ts,hts⟩:=xO.1 hs;obtain⟨d,hd,_⟩:=(hT src ts hts).und;obtain⟨v,e1,rfl⟩:=acx (hT dst ti h1) ⟨d,hd⟩ (bo h x) h2;exact⟨v,by simp[e1],.val⟩
   simp_all
  .obtain⟨v,e1,rfl⟩:=aeh hT h (bo h x) hq;exact⟨v,by simp[e1],.val⟩
 | extract x i=>
  simp only[hop]at hq;split at hq
  .rename_i cs hx;have hr:=bo h x;rw[hx]at hr;obtain⟨us,hu,h1,h2⟩:=hr.of_tup;obtain⟨v,e1,e2⟩:=h2 i c hq
   simp_all[Instr.extract]
  .simp at hq
 | slice t x lo hi mx=>
  simp only[hop]at hq;obtain⟨ti,h1,h2⟩:=cv.1 hq;obtain⟨v,e1,e2⟩:=acX h (hT t ti h1) (bo h x) h2
  simp_all
 | makeFunc fn first caps=>
  cases fn with
  | func f=>
   simp only[hop]at hq;split at hq
   .rename_i hf;simp only[cc]at hq;subst hq;obtain⟨hf,hfB⟩:=hf;have hfe:first=#[]:=ajm hf
    subst hfe;refine⟨.func (.func f) #[] (caps.map a.eval),by simp[Instr.makeFunc],?_⟩;have:=aF.clo (X:=X) (m:=m) (st:=st) (w:=w) (f:=f) (cs:=caps.toList.map st.ev) (us:=caps.toList.map a.eval) oZk (N5 h caps.toList);have e:caps.map a.eval=(caps.toList.map a.eval).toArray:=oZi
    simp_all[H7]
   .split at hq
    .rename_i _ hf;simp only[cc]at hq;subst hq;have hfe:caps=#[]:=ajm hf;subst hfe;refine⟨.func (.func f) (first.map a.eval) #[],by simp[Instr.makeFunc],?_⟩;have:=aF.clo (X:=X) (m:=m) (st:=st) (w:=w) (f:=f+B0) (cs:=first.toList.map st.ev) (us:=first.toList.map a.eval) oZk (N5 h first.toList);have e:first.map a.eval=(first.toList.map a.eval).toArray:=oZi
     rw[e];have hB:¬(f+B0<B0):=Nat.not_lt.2 (Nat.le_add_left _ _)
     simp_all[H7]
    .simp at hq
  | _=>simp_all
 | nilCheck x=>
  simp only[hop]at hq;have hx:=bo h x;split at hq
  .rename_i n p i j he;simp only[cc]at hq;subst hq;rw[he]at hx;obtain⟨_,_,_,_,b,off,k,_,_,hu⟩:=pf hx
   simp_all
  .rename_i es rows i j he;simp only[cc]at hq;subst hq;rw[he]at hx;obtain⟨b,off,arr,elem,frz,hu,_⟩:=Tb hx
   simp_all
  .simp at hq
 | build t parts=>
  simp only[hop]at hq;obtain⟨ti,h1,h2⟩:=cv.1 hq;have ht:=hT t ti h1;unfold O6 at h2;obtain⟨i,hi,hi1,hi2,z,hz,hzc⟩:=ht.info;obtain⟨d,hd,hagg,hk⟩:=ht.und;have h0:Rd X m st w (ti.zero.map .val) z.cells:=by
   refine⟨oZi,?_⟩;intro j c hc;simp only[cz,cq]at hc;obtain⟨v,hv,rfl⟩:=hc;exact⟨v,oZi,.val⟩
  have fin:∀(out:List C) (us':Array Value),P.built t (parts.toList.map fun x=>(x.1,a.eval x.2))=some us'->Rd X m st w out us'->∃v,(do pure (.value (<-Instr.build t (parts.map fun(i,x)=>(i,a.eval x)))):Sem Next).run P w=.ok (.value v) w/\aF X m st w (.agg out) v:=by
   intro out us' hb' hr;have hrun:=run_build (P:=P) w t (parts.map fun x=>(x.1,a.eval x.2)) us' oZf;refine⟨.agg us',by simp[hrun],?_⟩;have:=aF.agg (X:=X) (m:=m) (st:=st) (w:=w) (cs:=out) (us:=us'.toList) (by simpa using hr.1) (by
    intro j c hc;obtain⟨v,e1,e2⟩:=hr.2 j c hc
    simp_all)
   omega
  cases hkind:ti.kind with
  | struct fs=>
   rw[hkind]at hk;simp only[hkind,cq]at h2;obtain⟨out,hb,rfl⟩:=h2;obtain⟨fields,rfl,hf,places,hp⟩:=hk;obtain⟨us',e1,e2⟩:=LR h (place:=fun i=>places.toArray[i]?) (by
    rw[hkind];rintro i o s ⟨t',ht',ti',hti',rfl⟩
    grind[acY]) parts.toList _ _ out h0 hb
   simp_all[Program.built]
  | arr n e es=>
   rw[hkind]at hk;simp only[hkind,cq]at h2;obtain⟨out,hb,rfl⟩:=h2;obtain⟨rfl,ie,hie,hes⟩:=hk;obtain⟨us',e1,e2⟩:=LR h (place:=fun i=>some (i*ie.size,ie.size)) (by
    simp_all) parts.toList _ _ out h0 hb
   simp_all[Program.built]
  | _=>
   simp_all
 | call cl=>
  obtain⟨callee,args,argTypes⟩:=cl;cases callee with
  | builtin b=>
   simp only[hop]at hq;obtain⟨v,e1,e2⟩:=ZN hT h (ty:=o.type) (consts:=args.map fun|.const _=>true|_=>false) hq
   grind[resolve,invoke]
  | _=>simp_all
 | _=>simp[hop]at hq
end
end Go.Abs
namespace Go.Abs
def H0:Nat:=1000000
def MB(dst:Option Nat)(m:Nat->aq->Value)(st:St)(w:World)(m':Nat->aq->Value)(st':St)(w':World):Prop:=
 ∀n,n<H0->dst≠some n->ak (st.roots n) []->ak (st'.roots n) []->m' n []=m n []/\∀b,blk (m n [])=some b->w'.heap[b]?=w.heap[b]?
def dN:C->Bool
 | .dead=>true
 | _=>false
theorem Du{c:C}(h:dN c=true):c=.dead:=by cases c<;>simp[dN]at h;rfl
def St.fresh(st:St)(d:Nat):St:=if dN (st.roots d)then st else st.drop d
def CI(h:Nat)(c:C)(st:St):Option (St ×(Nat->aq->Bool)):=
 if dN (st.roots h)then
  match c with
  | .pal n p lo len cap=>match st.node n p with
   | some (.sl true _ es _ rows)=>if n<H0 then some (st.move n p lo len cap h es rows,fun n' p'=>n' == n&&ph p p')else none
   | _=>none
  | c=>if c.cellOk then some ({st with roots:=upd st.roots h c.frz},fun _ _=>false)else none
 else none
def kV:Nat->Nat->List C->C->St->Option (St×C)
 | 0,_,_,keep,st=>some (st,keep)
 | _+1,_,[],keep,st=>some (st,keep)
 | k+1,h,c::cs,keep,st=>match CI h c st with
  | some (st',f)=>kV k (h+1) (cs.map (poi f)) (poi f keep) st'
  | none=>none
def pS(n:Nat)(q:aq)(i:Nat):Nat->Nat->Nat->St->Option St
 | _,0,_,st=>some st
 | j,k+1,h,st=>match st.node n q with
  | some (.sl true _ _ _ rows)=>match rows[i]? with
   | some row=>if j<row.length/\n<H0 then pS n q i (j+1) k (h+1) (st.plug (fun n' p'=>n' == h ||(n' == n&&ph (q++[(i,j)]) p')) n q i j h)else none
   | none=>none
  | _=>none
section
variable {X:Ctx} {m:Nat->aq->Value} {st:St} {a:Act} {w:World} {P:Program}
def sd(h:av X m st a w)(d:Nat):av X m (st.fresh d) a w/\(st.fresh d).roots d=.dead:=by
 unfold St.fresh;split
 .grind[Du]
 .exact⟨h.drop d,by simp[St.drop,aI]⟩
def St.push(st:St)(cs:List C):St:={st with tmps:=st.tmps++cs}
def Act.push(a:Act)(us:List Value):Act:={a with tmps:=a.tmps++us.toArray}
def av.push(h:av X m st a w){cs:List C}{us:List Value}(hl:us.length=cs.length)(hr:∀(j:Nat) (c:C),cs[j]?=some c->∃u,us[j]?=some u/\aF X m st w c u):av X m (st.push cs) (Act.push a us) w:=by
 refine⟨by simp[St.push,Act.push,h.len,hl],?_,h.root,h.inj,h.own,h.fr,h.df⟩;intro t c ht;simp only[St.push]at ht;by_cases hlt:t<st.tmps.length
 .rw[na hlt]at ht;obtain⟨u,d,h1,h2⟩:=h.tmp t c ht;exact⟨u,d,by grind[Act.push],h2⟩
 .rw[ni oZg]at ht;obtain⟨u,h1,d,h2⟩:=hr _ c ht;refine⟨u,d,?_,h2⟩;simp only[Act.push];rw[ajn (by rw[h.len];omega),h.len]
  simp_all
def av.pop{ts:List C}{cs:List C}{R:Nat->C}{us:List Value}(h:av X m {tmps:=ts++cs,roots:=R} (Act.push a us) w)(hl:us.length=cs.length):
  av X m {tmps:=ts,roots:=R} a w/\∀(j:Nat) (c:C),cs[j]?=some c->∃u,us[j]?=some u/\aF X m {tmps:=ts,roots:=R} w c u:=by
 have hlen:a.tmps.size=ts.length:=by have:=h.len;simp_all[Act.push]
 refine⟨⟨hlen,?_,h.root,h.inj,h.own,h.fr,h.df⟩,?_⟩
 .intro t c ht;have hlt:t<ts.length:=(cg.1 ht).1;obtain⟨u,d,h1,h2⟩:=h.tmp t c oZi
  grind[Act.push]
 .intro j c hj;obtain⟨u,d,h1,h2⟩:=h.tmp (ts.length+j) c oZi;refine⟨u,?_,d,h2⟩
  simp_all[Act.push,ajn]
def eL.wait(h:av X m st a w){m':Nat->aq->Value}{R':Nat->C}{f:Nat->aq->Bool}{cs:List C}{us:List Value}(hl:us.length=cs.length)(hr:∀(j:Nat) (c:C),cs[j]?=some c->∃u,us[j]?=some u/\aF X m st w c u){w':World}
  (H:av X m' {tmps:=(st.push cs).tmps.map (poi f),roots:=R'} (Act.push a us) w'):
  av X m' {tmps:=st.tmps.map (poi f),roots:=R'} a w'/\∀(j:Nat) (c:C),(cs.map (poi f))[j]?=some c->∃u,us[j]?=some u/\aF X m' {tmps:=st.tmps.map (poi f),roots:=R'} w' c u:=by
 simp only[St.push,cW]at H;exact H.pop (by simp[hl])
def Qy{c:C}(h:c.cellOk=true):c.oneC=true:=by
 cases c<;>first|rfl|exact h|simp[C.cellOk]at h
def acT(h:av X m st a w){n:Nat}{c:C}{u:Value}(hu:aF X m st w c u){st':St}{f:Nat->aq->Bool}(hp:CI n c st=some (st',f))(hn:H0<=n){cs:List C}{us:List Value}(hl:us.length=cs.length)
  (hr:∀(j:Nat) (c:C),cs[j]?=some c->∃u,us[j]?=some u/\aF X m st w c u):
  ∃m',av X m' st' a w/\(∃d,rel w (X.S st'.roots m') L0 (m' n) true d [] (st'.roots n) u)/\(∀(j:Nat) (c:C),(cs.map (poi f))[j]?=some c->∃u,us[j]?=some u/\aF X m' st' w c u)∧
   (∀k,H0<=k->k≠n->SZ X m st w m' st' w k)/\(∀k q,k<H0->m' k q=m k q)/\(∀k,H0<=k->k≠n->st'.roots k=st.roots k)/\u.oneCell'=true:=by
 unfold CI at hp;split at hp
 case isFalse=>simp at hp
 rename_i hd;have hd:=Du hd;have H:=h.push hl hr;have hu':aF X m (st.push cs) w c u:=hu;have id0:∀(ts:List C),ts.map (poi fun _ _=>false)=ts.map id∨True:=fun _=>.inr trivial;split at hp
 .rename_i k p lo len cap;split at hp
  .rename_i nl es cap0 rows hnode;split at hp
   .rename_i hk;simp only[cc,cP]at hp;obtain⟨rfl,rfl⟩:=hp;have hne:n≠k:=oZg;obtain⟨e1,e2,e3⟩:=H.move (h:=n) (st:=st.push cs) hd hne hnode (eD hu');obtain⟨g1,g2⟩:=eL.wait h hl hr e1;have e3':eL X m (st.push cs) w (ji m k p lo n u) ((st.push cs).move k p lo len cap n es rows) w [k,n]:=e3;have keep:∀x,H0<=x->x≠n->SZ X m st w (ji m k p lo n u) (st.move k p lo len cap n es rows) w x:=by
     intro x hx hxn;exact e3'.keeps oZd
    refine⟨_,g1,?_,g2,keep,?_,fun x hx hxn=>(keep x hx hxn).1,Ph hu rfl⟩
    .obtain⟨d,e2⟩:=e2;refine⟨d,?_⟩;have:(st.move k p lo len cap n es rows).roots n=.sl true none es cap ((rows.drop lo).take len):=by simp[St.move,aI]
     rw[this];exact e2
    .intro x q hx;have:x≠n:=oZg;simp[ji,this]
   .simp at hp
  .simp at hp
 .split at hp
  .rename_i hok;simp only[cc,cP]at hp;obtain⟨rfl,rfl⟩:=hp;have hone:u.oneCell'=true:=Ph hu (Qy hok);obtain⟨d,hud⟩:=hu;obtain⟨e1,e2,_,rfl,e3⟩:=h.hand hd hok hud;have keep:∀x,H0<=x->x≠n->SZ X m st w m {st with roots:=upd st.roots n c.frz} w x:=fun x hx hxn=>e3.keeps oZf;refine⟨m,e1,?_,?_,keep,fun _ _ _=>rfl,fun x hx hxn=>(keep x hx hxn).1,hone⟩
   .simp_all[aI]
   .obtain⟨e1',_⟩:=H.hand (st:=st.push cs) hd hok hud;have e1'':av X m {tmps:=st.tmps++cs,roots:=upd st.roots n c.frz} (Act.push a us) w:=e1';obtain⟨_,g2⟩:=e1''.pop hl;intro j c' hj;simp only[cz,cq]at hj;obtain⟨c0,hj,rfl⟩:=hj;obtain⟨u0,g3,g4⟩:=g2 j c0 hj;rcases ld (fun _ _=>false) c0 with hpo|⟨hpo,_⟩
    .rw[hpo];exact⟨u0,g3,.dead⟩
    simp_all
  .simp at hp
def D9:∀(k:Nat) {n:Nat} {cs:List C} {us:List Value} {keep:C} {ku:Value} {m:Nat->aq->Value} {st st':St} {keep':C},cs.length=k->us.length=k->H0<=n->av X m st a w ->
  (∀(j:Nat) (c:C),cs[j]?=some c->∃u,us[j]?=some u/\aF X m st w c u)->aF X m st w keep ku->kV k n cs keep st=some (st',keep') ->
  ∃m',av X m' st' a w/\aF X m' st' w keep' ku/\(∀(j:Nat) (u:Value),us[j]?=some u->∃d,rel w (X.S st'.roots m') L0 (m' (n+j)) true d [] (st'.roots (n+j)) u)∧
   (∀x,H0<=x->(x<n∨n+k<=x)->SZ X m st w m' st' w x)/\(∀x q,x<H0->m' x q=m x q)/\(∀u∈us,u.oneCell'=true):=by
 intro k
 induction k with
 | zero=>
  intro n cs us keep ku m st st' keep' hc hu hn h hr hk hp;simp only[kV,cc,cP]at hp;obtain⟨rfl,rfl⟩:=hp;have:us=[]:=nb hu;subst this;exact⟨m,h,hk,oZk,fun x _ _=>⟨rfl,fun _ _=>rfl,fun _ _ h=>h⟩,fun _ _ _=>rfl,oZk⟩
 | succ k ih=>
  intro n cs us keep ku m st st' keep' hc hu hn h hr hk hp;cases cs with
  | nil=>simp at hc
  | cons c cs=>
   cases us with
   | nil=>simp at hu
   | cons u us=>
    simp only[kV]at hp;split at hp
    .rename_i st1 f hp1;obtain⟨u0,h0,hru⟩:=hr 0 c rfl;simp only[cG,cc]at h0;subst h0;have hl:(us++[ku]).length=(cs++[keep]).length:=oZf;have hr':∀(j:Nat) (c:C),(cs++[keep])[j]?=some c->∃u,(us++[ku])[j]?=some u/\aF X m st w c u:=by
      intro j c' hj;by_cases hlt:j<cs.length
      .rw[na hlt]at hj;obtain⟨u',e1,e2⟩:=hr (j+1) c' oZf
       grind
      grind
     obtain⟨m1,g1,g2,g3,g4,g5,g6,g7⟩:=acT h hru hp1 hn hl hr';have hlen:us.length=cs.length:=oZf;obtain⟨m',f1,f2,f3,f4,f5,f6⟩:=ih (n:=n+1) (cs:=cs.map (poi f)) (us:=us) (keep:=poi f keep) (ku:=ku) oZf oZf oZg g1 (by
      intro j c' hj;have hlt:j<cs.length:=oZi;obtain⟨u',e1,e2⟩:=g3 j c' oZi
      grind) (by
      obtain⟨u',e1,e2⟩:=g3 cs.length (poi f keep) oZf
      simp_all) hp
     refine⟨m',f1,f2,?_,?_,?_,oZf⟩
     .intro j u' hj;cases j with
      | zero=>
       simp only[cG,cc]at hj;subst hj;obtain⟨d,g2⟩:=g2;exact⟨d,(f4 n hn (.inl oZg)).2.2 _ _ g2⟩
      | succ j=>
       have:=f3 j u' oZf
       grind
     .intro x hx hxn;have k1:=g4 x hx oZg;have k2:=f4 x hx oZg;exact⟨k2.1.trans k1.1,fun q ho=>by rw[k2.2.1 q oZi,k1.2.1 q ho],fun u d hr=>k2.2.2 u d (k1.2.2 u d hr)⟩
     simp_all
    .simp at hp
def Mj:∀(k:Nat) {j n h:Nat} {q:aq} {i:Nat} {us:List Value} {m:Nat->aq->Value} {st st':St} {w:World} {nl:Option Bool} {es:Nat} {cap:Option Nat} {rows:List (List C)} {b off kk:Nat},us.length=k->H0<=h->av X m st a w ->
  st.node n q=some (.sl true nl es cap rows)->m n q=.slice (some ⟨b,off,none⟩) rows.length kk ->
  (∀(x:Nat) (u:Value),us[x]?=some u->∃d,rel w (X.S st.roots m) L0 (m (h+x)) true d [] (st.roots (h+x)) u)->pS n q i j k h st=some st' ->
  ∃m',av X m' st' a (w.setCells b (off+i*es+j) us)/\(∀x,x<H0->x≠n->∀p,m' x p=m x p)/\(∀p,(∀r,p≠q++r)->m' n p=m n p)/\m' n q=m n q/\(∃cap' rows',st'.node n q=some (.sl true nl es cap' rows')/\rows'.length=rows.length)/\(k=0∨∃row,rows[i]?=some row/\j+k<=row.length):=by
 intro k
 induction k with
 | zero=>
  intro j n h q i us m st st' w nl es cap rows b off kk hu hh H hn hm hr hp;simp only[pS,cc]at hp;subst hp;have:us=[]:=nb hu;subst this;exact⟨m,H,fun _ _ _ _=>rfl,fun _ _=>rfl,rfl,⟨cap,rows,hn,rfl⟩,.inl rfl⟩
 | succ k ih=>
  intro j n h q i us m st st' w nl es cap rows b off kk hu hh H hn hm hr hp;cases us with
  | nil=>simp at hu
  | cons u us=>
   simp only[pS,hn]at hp;split at hp
   .rename_i row hrow;split at hp
    .rename_i hc;obtain⟨hj,hnH⟩:=hc;obtain⟨d1,hr0⟩:=hr 0 u rfl;simp only[xz]at hr0;have hne:h≠n:=oZg;have hc0:row[j]?=some row[j]:=cj hj;obtain⟨P1,P2⟩:=H.plug (f:=fun n' p'=>n' == h ||(n' == n&&ph (q++[(i,j)]) p')) oZf oZf hne hn hrow hc0 hm hr0;have hat:(st.roots n).at (q++[(i,j)])=some row[j]:=by
      have hn':(st.roots n).at q=some (.sl true nl es cap rows):=hn
      simp_all[C.at_append,C.at,C.kid]
     have hqoff:∀r,q≠q++[(i,j)]++r:=oZf;obtain⟨rows',hrows'⟩:∃r,r=rows.modify i (·.modify j (fun _=>st.roots h)):=⟨_,rfl⟩;have hnode:(st.plug (fun n' p'=>n' == h ||(n' == n&&ph (q++[(i,j)]) p')) n q i j h).node n q=some (.sl true nl es cap rows'):=by
      have hn':(st.roots n).at q=some (.sl true nl es cap rows):=hn;have:=C.at_turn_self (fun x=>x.turn (fun _=>st.roots h) [(i,j)]) q [] (st.roots n) _ hn';simp only[St.node,St.plug,upd,hne.symm,if_false,if_true]
      simp_all[C.turn_append,C.at,C.turn]
     have hlen:rows'.length=rows.length:=oZf;obtain⟨m',f1,f2,f3,f3',f4,f5'⟩:=ih (j:=j+1) (h:=h+1) (us:=us) oZf oZg P1 hnode (by rw[uJ _ _ _ _ _ hqoff,hlen];exact hm) (by
      intro x v hx;obtain⟨d,hd⟩:=hr (x+1) v oZf;rw[show h+1+x=h+(x+1) by omega];exact⟨d,(P2.keeps oZd).2.2 _ _ hd⟩) hp
     refine⟨m',?_,?_,?_,?_,?_,.inr ⟨row,hrow,?_⟩⟩
     rotate_left 5
     .grind
     .grind[World.setCells]
     .simp_all[LU]
     .simp_all[uJ]
     .simp_all[uJ]
     simp_all
    .simp at hp
   .simp at hp
end
end Go.Abs
namespace Go.Abs
def OS(d:Nat)(ti:TI)(st:St):St:=
 {tmps:=(st.fresh d).tmps.set d (.pref d [] 0 0),roots:=upd (st.fresh d).roots d (.sl true none ti.size (some 1) [ti.zero.map .val])}
def TA(d es:Nat)(cap:Option Nat)(rows:List (List C))(tmp:C)(st:St):St:=
 {tmps:=st.tmps.set d tmp,roots:=upd st.roots d (.sl true none es cap (rows.map (·.map C.frz)))}
def HQ(d es:Nat)(cells:List C)(tmp:C)(st:St):Option St:=
 match kV cells.length H0 cells .dead st with
 | some (st1,_)=>if dN (st1.roots d)/\d<H0 then
   match pS d [] 0 0 cells.length H0 {st1 with roots:=upd st1.roots d (.sl true none es (some 1) [cells.map fun _=>.dead])}with
   | some st2=>some {st2 with tmps:=st2.tmps.set d tmp}
   | none=>none
  else none
 | none=>none
def Tq(d:Nat)(ti:TI)(x:Operand)(st:St):Option St:=
 match wy ti ((st.fresh d).ev x)with
 | some cells=>if cells.all C.cellOk then some (TA d ti.size (some 1) [cells] (.pref d [] 0 0) (st.fresh d))else HQ d ti.size cells (.pref d [] 0 0) (st.fresh d)
 | none=>none
def rF(es:Nat):Nat->List C->List (List C)
 | 0,_=>[]
 | n+1,l=>l.take es::rF es n (l.drop es)
def yh(E:Env)(d:Nat)(ti:TI)(len:Nat)(parts:List (Nat×Operand))(st:St):Option St:=
 match ti.kind with
 | .slice e es=>if(E.T e).isNone then none else match tF E {ti with kind:=.arr len e es} (parts.map fun x=>(x.1,(st.fresh d).ev x.2)) (List.replicate (len*es) .dead)with
  | some flat=>if len*es<=16777216/\es≠0 then
    if flat.all C.cellOk then some (TA d es (some len) (rF es len flat) (.pal d [] 0 len none) (st.fresh d))
    else if len=1 then HQ d es flat (.pal d [] 0 1 none) (st.fresh d)else none
   else none
  | none=>none
 | _=>none
def uZ(E:Env)(cp:Option Nat)(d:Nat)(ti:TI)(len:Nat)(parts:List (Nat×Operand))(st:St):Option St:=
 match ti.kind with
 | .slice e es=>if(E.T e).isNone then none else match tF E {ti with kind:=.arr len e es} (parts.map fun x=>(x.1,st.ev x.2)) (List.replicate (len*es) .dead)with
  | some flat=>if len*es<=16777216/\es≠0 then
    if flat.all C.cellOk then some (st.put (some d) (.sl false none es cp ((rF es len flat).map (·.map C.frz))))else none
   else none
  | none=>none
 | _=>none
def o7(E:Env)(d:Nat)(ti:TI)(len:Nat)(parts:List (Nat×Operand))(st:St):Option St:=
 match E.F d with
 | some false=>uZ E none d ti len parts st
 | some true=>uZ E (some len) d ti len parts st
 | _=>yh E d ti len parts st
def CF(n:Nat)(q:aq)(i j:Nat)(row:List C)(ts:List C):List C:=
 match row[j]? with
 | some c0=>if Ei c0=true then ts else ts.map (poi fun n' p'=>n' == n&&ph (q++[(i,j)]) p')
 | none=>ts
def jA(n:Nat)(q:aq)(i:Nat):Nat->List C->St->Option St
 | _,[],st=>some st
 | j,c::cs,st=>match st.node n q with
  | some (.sl true _ _ _ rows)=>match rows[i]? with
   | some row=>if j<row.length/\n<H0 then jA n q i (j+1) cs {tmps:=CF n q i j row st.tmps,roots:=upd st.roots n ((st.roots n).turn (fun _=>c.frz) (q++[(i,j)]))}else none
   | none=>none
  | _=>none
def lS(ti:TI)(x v:C)(st:St):Option St:=
 match wy ti v,x with
 | some cells,.pref n q i j=>if cells.all C.cellOk then(if dN (st.roots H0)then jA n q i j cells st else none)else
   match kV cells.length H0 cells x st with
   | some (st1,.pref n q i j)=>pS n q i j cells.length H0 st1
   | _=>none
 | _,_=>none
section
variable {X:Ctx} {m:Nat->aq->Value} {st:St} {a:Act} {w:World} {P:Program}
def V8{b o:Nat}{u:Value}(h:w.cell? ⟨b,o,none⟩=some u):w.setCell ⟨b,o,none⟩ u=w:=by
 unfold World.setCell;have:w.heap.modify b (fun
   | .cells c elem frozen=>.cells (if(none:Option Nat).isSome then c else c.setIfInBounds o u) elem frozen
   | o=>o)=w.heap:=by
  apply ajo;intro k;rw[aiI];split
  .rename_i e;subst e;simp only[World.cell?]at h;cases hb:w.heap[b]? with
   | none=>simp
   | some ob=>
    rw[hb]at h;cases ob with
    | cells c e f=>
     simp only[cI,cc,Obj.cells.injEq,and_true]
     grind
    | _=>simp at h
  .rfl
 exact congrArg (fun h=>({w with heap:=h}:World)) this
def Nl{b:Nat}:∀(us:List Value) (o:Nat),(∀(x:Nat) (u:Value),us[x]?=some u->w.cell? ⟨b,o+x,none⟩=some u)->w.setCells b o us=w:=by
 intro us
 induction us with
 | nil=>intro o _;rfl
 | cons u us ih=>
  intro o h;rw[World.setCells,V8 (by simpa using h 0 u rfl)];exact ih (o+1) (fun x v hx=>by rw[show o+1+x=o+(x+1) by omega];simp_all)
def av.putTmp(h:av X m st a w)(d:Nat){c:C}{u:Value}(hr:aF X m st w c u):av X m {st with tmps:=st.tmps.set d c} (a.put (some d) u) w:=by
 obtain⟨k,hr⟩:=hr;exact h.put (some d) hr
theorem ab4{c:C}{u:Value}(h:aF X m st w c u)(hc:c.cellOk=true):u.oneCell'=true:=by
 exact Ph h (Qy hc)
def EF{c v:C}(hc:c.cellOk=true):∀(d:Nat),¬occ d c v:=by
 intro d h;cases d with
 | zero=>exact h
 | succ d=>
  cases c with
  | clo f cs=>
   obtain⟨c',hm,ho⟩:=h;simp only[C.cellOk,cE]at hc;have:=hc c' hm;cases d with
   | zero=>exact ho
   | succ d=>cases c'<;>simp at this<;>exact ho
  | agg cs=>grind[C.cellOk]
  | tup cs=>grind[C.cellOk]
  | pref _ _ _ _=>grind[C.cellOk]
  | pal _ _ _ _ _=>grind[C.cellOk]
  | _=>exact h
def eL.relT{m':Nat->aq->Value}{st':St}{w':World}{ch:List Nat}(s:eL X m st w m' st' w' ch){c:C}{u:Value}(hc:c.cellOk=true)(h:aF X m st w c u):aF X m' st' w' c u:=by
 obtain⟨d,h⟩:=h;exact⟨d,az s.S d (fun v u ho _=>(EF hc d ho).elim) (fun h=>by simp at h) (fun h=>by simp at h) h⟩
def Qc{cells:List C}{us:List Value}(hall:cells.all C.cellOk=true)(hl:us.length=cells.length)(hr:∀(j:Nat) (c:C),cells[j]?=some c->∃u,us[j]?=some u/\aF X m st w c u):
  ∃D,∀(j:Nat) (c:C),cells[j]?=some c->∃u,us[j]?=some u/\bL w (X.S st.roots m) D c.frz u:=by
 obtain⟨d,hd⟩:=QJ cells us hl hr;refine⟨d,fun j c hc=>?_⟩;obtain⟨u,h1,h2⟩:=hd j c hc;have hok:=cE.1 hall c (cd hc);exact⟨u,h1,.inr ⟨c,rfl,hok,az (fun _ _ h=>⟨h,rfl⟩) d (fun v u ho _=>(EF hok d ho).elim) (fun h=>by simp at h) (fun h=>by simp at h) h2⟩⟩
theorem yA(w:World)(o:Obj):(w.alloc o).heap=w.heap.push o:=rfl
theorem Ti{d es:Nat}{cap:Option Nat}{nl:Option Bool}{rows:List (List C)}{b off k:Nat}(hR:st.roots d=.sl true nl es cap rows)(hm:m d []=.slice (some ⟨b,off,none⟩) rows.length k):
  aF X m st w (.pref d [] 0 0) (.pointer (some ⟨b,off,none⟩)):=⟨1,nl,es,cap,rows,b,off,k,by simp[C.at,hR],hm,oZk⟩
def qs{d es:Nat}{cap:Option Nat}{nl:Option Bool}{rows:List (List C)}{ad:Option Addr}{k:Nat}(hR:st.roots d=.sl true nl es cap rows)(hm:m d []=.slice ad rows.length k)(hk:rows.length<=k)(hz:k=0∨∃b off,ad=some ⟨b,off,none⟩):
  aF X m st w (.pal d [] 0 rows.length none) (.slice ad rows.length k):=by
 refine⟨1,nl,es,cap,rows,ad,k,ad,k,by simp[C.at,hR],hm,oZg,rfl,hk,oZg,oZk,oZk,?_⟩
 simp_all
def acB{E:Env}(hT:TOk P E)(h:av X m st a w){t:Nat}{ti:TI}(ht:fc P t ti)(d:Nat):
  ∃u w',(Instr.alloc t true (.tuple #[])).run P w=.ok u w'/\∃m',av X m' (OS d ti st) (a.put (some d) u) w':=by
 obtain⟨h1,hd⟩:=sd h d;obtain⟨z,hz,hzc⟩:=ht.zero_run (w:=w);refine⟨.pointer (some ⟨w.heap.size,0,none⟩),w.alloc (.cells z.cells t),?_,?_⟩
 .simp[Instr.alloc,hz,newVar,newRow]
 .obtain⟨h2,h3⟩:=h1.newRoot (d:=d) hd (D:=1) (arr:=z.cells) (elem:=t) (rows:=[ti.zero.map .val]) (es:=ti.size) (k:=1) (cap:=some 1) (yA w _) rfl rfl rfl oZk (by simp[maxLen]) oZk (by simp[ht.zlen])
   (by have:z.cells.size=ti.size:=(by rw[<-xJ,hzc,ht.zlen]);omega) (by
    intro i j row c hi hj;cases i with
    | zero=>
     simp only[cG,cc]at hi;subst hi;simp only[cz,cq]at hj;obtain⟨v,hv,rfl⟩:=hj;exact⟨v,oZi,.val (ht.zone v (cd hv))⟩
    | succ i=>simp at hi)
  exact⟨_,h2.putTmp d (Ti (aI _ _ _) (bz _ _ _))⟩
def Rz{rows:List (List C)}{us:List Value}{es:Nat}(hlen:∀row∈rows,row.length=es){D:Nat}{S:Nat->Prop}
  (h:∀(j:Nat) (c:C),rows.flatten[j]?=some c->∃u,us[j]?=some u/\bL w S D c.frz u):
  ∀(i j:Nat) (row:List C) (c:C),(rows.map (·.map C.frz))[i]?=some row->row[j]?=some c->∃u,us.toArray[i*es+j]?=some u/\bL w S D c u:=by
 intro i j row c hi hj;simp only[cz,cq]at hi;obtain⟨r0,hi,rfl⟩:=hi;simp only[cz,cq]at hj;obtain⟨c0,hj,rfl⟩:=hj;have:rows.flatten[i*es+j]?=some c0:=by
  clear h
  induction rows generalizing i with
  | nil=>simp at hi
  | cons r rows ih=>
   have hr:=hlen r oZk;cases i with
   | zero=>
    grind
   | succ i=>
    grind
 simp_all
theorem TJ{rows:List (List C)}{es:Nat}(hlen:∀row∈rows,row.length=es):rows.flatten.length=rows.length*es:=by
 induction rows with
 | nil=>simp
 | cons r rows ih=>grind
def Se(h:av X m st a w){d:Nat}(hd:st.roots d=.dead){es:Nat}{cap:Option Nat}{rows:List (List C)}{us:List Value}{elem:TypeId}(hlen:∀row∈rows,row.length=es)(hmax:rows.length<=maxLen)(hcap:∀c,cap=some c->rows.length=c)
  (hus:us.length=rows.flatten.length) (hall:rows.flatten.all C.cellOk=true) (hr:∀(j:Nat) (c:C),rows.flatten[j]?=some c->∃u,us[j]?=some u/\aF X m st w c u):
  ∃m',av X m' {st with roots:=upd st.roots d (.sl true none es cap (rows.map (·.map C.frz)))} a (w.alloc (.cells us.toArray elem))/\m' d []=.slice (some ⟨w.heap.size,0,none⟩) rows.length rows.length/\∀n,n≠d->∀q,m' n q=m n q:=by
 obtain⟨D,hD⟩:=Qc hall hus hr;obtain⟨h2,h3⟩:=h.newRoot (d:=d) hd (D:=D) (arr:=us.toArray) (elem:=elem) (rows:=rows.map (·.map C.frz)) (es:=es) (k:=rows.length) (cap:=cap) (yA w _) rfl rfl rfl oZk hmax hcap
  oZf
  (by grind[TJ]) (Rz hlen hD)
 grind[iK,bz]
def RM(h:av X m st a w){d:Nat}(hd:st.roots d=.dead){es:Nat}{cells:List C}{us:List Value}{elem:TypeId}{tmp:C}{st':St}(hes:cells.length=es)(hus:us.length=cells.length)(hr:∀(j:Nat) (c:C),cells[j]?=some c->∃u,us[j]?=some u/\aF X m st w c u)
  (hp:HQ d es cells tmp st=some st'):
  ∃m' st2,av X m' st2 a (w.alloc (.cells us.toArray elem))/\m' d []=.slice (some ⟨w.heap.size,0,none⟩) 1 1/\(∃rows,st2.roots d=.sl true none es (some 1) rows/\rows.length=1∨∃cap,st2.roots d=.sl true none es cap rows/\rows.length=1)/\st'={st2 with tmps:=st2.tmps.set d tmp}/\∀n,n<H0->n≠d->∀q,m' n q=m n q:=by
 unfold HQ at hp;split at hp
 case h_2=>simp at hp
 rename_i st1 keep hprep;split at hp
 case isFalse=>simp at hp
 rename_i hc;obtain⟨hd1,hdH⟩:=hc;have hd1:=Du hd1;split at hp
 case h_2=>simp at hp
 rename_i st2 hplug;simp only[cc]at hp;obtain⟨m1,g1,_,g3,g4,g5,_⟩:=D9 cells.length (ku:=undef) rfl hus (ck _) h hr .dead hprep;obtain⟨f1,f2⟩:=g1.newRoot (d:=d) hd1 (D:=1) (arr:=us.toArray) (elem:=elem) (rows:=[cells.map fun _=>.dead]) (es:=es) (k:=1) (cap:=some 1) (yA w _) rfl rfl rfl oZk (by simp[maxLen]) oZk (by simp[hes]) oZf (by
  intro i j row c hi hj;cases i with
  | zero=>
   simp only[cG,cc]at hi;subst hi;simp only[cz,cq]at hj;obtain⟨c0,hj,rfl⟩:=hj;have hlt:j<us.length:=oZi;exact⟨us[j],by simp[hlt],.dead⟩
  | succ i=>simp at hi)
 obtain⟨m2,e1,e2,e3,e3',e4,_⟩:=Mj cells.length (us:=us) (b:=w.heap.size) (off:=0) (kk:=1) hus (ck _) f1 (n:=d) (q:=[]) (i:=0) (j:=0) (nl:=none) (es:=es) (cap:=some 1) (rows:=[cells.map fun _=>.dead]) (by simp[St.node,C.at,aI]) (by rw[bz]) (by
  intro x u hx;obtain⟨dd,hdd⟩:=g3 x u hx;exact⟨dd,(f2.keeps oZd).2.2 _ _ hdd⟩) hplug
 rw[Nl]at e1
 .refine⟨m2,st2,e1,?_,?_,hp.symm,fun n hn hnd q=>by simp_all[iK]⟩
  .rw[e3',bz];rfl
  grind[St.node,C.at]
 simp_all
def afg{E:Env}(hT:TOk P E)(h:av X m st a w){t:Nat}{ti:TI}(ht:fc P t ti){d:Nat}{x:Operand}{st':St}(hp:Tq d ti x st=some st'):
  ∃u w',(Instr.box t (a.eval x)).run P w=.ok u w'/\∃m',av X m' st' (a.put (some d) u) w':=by
 unfold Tq at hp;obtain⟨h1,hd⟩:=sd h d;split at hp
 case h_2=>simp at hp
 rename_i cells hun;obtain⟨e1,e2,e3⟩:=Jk (bo h1 x) hun;refine⟨.pointer (some ⟨w.heap.size,0,none⟩),w.alloc (.cells (a.eval x).cells t),by simp[Instr.box,newVar,newRow],?_⟩;have earr:(a.eval x).cells=(a.eval x).cells.toList.toArray:=oZk;rw[earr];split at hp
 .rename_i hall;simp only[cc]at hp;subst hp;obtain⟨m',g1,g2,_⟩:=Se (elem:=t) h1 hd (rows:=[cells]) (us:=(a.eval x).cells.toList) (es:=ti.size) (cap:=some 1) (by simp[e1]) (by simp[maxLen]) oZk oZi oZi oZi;exact⟨m',g1.putTmp d (Ti (nl:=none) (es:=ti.size) (cap:=some 1) (rows:=[cells.map C.frz]) (aI _ _ _) g2)⟩
 .obtain⟨m',st2,g1,g2,⟨rows,g3⟩,rfl,_⟩:=RM (elem:=t) h1 hd e1 e2 e3 hp;refine⟨m',g1.putTmp d ?_⟩
  grind[Ti]
end
end Go.Abs
namespace Go.Abs
section
variable {X:Ctx} {m:Nat->aq->Value} {st:St} {a:Act} {w:World} {P:Program}
def Qe(es:Nat):∀(n:Nat) (l:List C),l.length=n*es->(rF es n l).length=n/\(∀row∈rF es n l,row.length=es)/\(rF es n l).flatten=l:=by
 intro n
 induction n with
 | zero=>simp_all[rF]
 | succ n ih=>
  intro l h;rw[nH]at h;obtain⟨h1,h2,h3⟩:=ih (l.drop es) oZd;refine⟨by simp[rF,h1],?_,by simp[rF,h3]⟩;intro row hr;simp only[rF,cF]at hr;rcases hr with rfl|hr
  .simp;omega
  .exact h2 row hr
theorem Ua{E:Env}(hT:TOk P E)(h:av X m st a w){t:Nat}{ti:TI}(ht:fc P t ti){d len:Nat}{parts:Array (Nat×Operand)}{st':St}(hp:yh E d ti len parts.toList st=some st'):
  ∃u w',(Instr.buildSlice t len (parts.map fun(i,x)=>(i,a.eval x))).run P w=.ok u w'/\∃m',av X m' st' (a.put (some d) u) w'/\(∀n,n<H0->n≠d->m' n []=m n [])/\∀b,b<w.heap.size->w'.heap[b]?=w.heap[b]?:=by
 unfold yh at hp;obtain⟨h1,hd⟩:=sd h d;obtain⟨dd,hdd,_,hk⟩:=ht.und;split at hp
 case h_2=>simp at hp
 rename_i e es hkind;rw[hkind]at hk;obtain⟨rfl,ie0,hie0,hes0⟩:=hk;split at hp
 case isTrue=>simp at hp
 rename_i hE;have hE:∃te,E.T e=some te:=by cases hh:E.T e with|none=>simp_all|some te=>simp_all
 obtain⟨te,hte⟩:=hE;obtain⟨ie,hie,hie1,hie2,z,hz,hzc⟩:=(hT e te hte).info;rw[hie]at hie0;cases hie0;split at hp
 case h_2=>simp at hp
 rename_i flat hflat;split at hp
 case isFalse=>simp at hp
 rename_i hc;obtain⟨hc1,hc2⟩:=hc;have init:Rd X m (st.fresh d) w (List.replicate (len*es) .dead) ((Array.range (len*ie0.size)).map (z.cells[· % z.cells.size]!)):=by
  refine⟨by simp[hes0],?_⟩;intro j c hj;simp only[ai1]at hj;split at hj
  .rename_i hlt;simp only[cc]at hj;subst hj;exact⟨_,by rw[ai2,ai3,if_pos oZf];rfl,.dead⟩
  .simp at hj
 obtain⟨us',f1,f2⟩:=LR (E:=E) h1 (ti:={ti with kind:=.arr len e es}) (place:=fun i=>some (i*ie0.size,ie0.size)) (by
  simp_all) parts.toList _ _ flat init hflat
 have hfl:flat.length=len*es:=by
  have:=f2.1;have h2:us'.size=len*es:=by
   have key:∀(place:Nat->Option (Nat×Nat)) (l:List (Nat×Value)) (c c':Array Value),Instr.fill place c l=some c'->c'.size=c.size:=by
    intro place l
    induction l with
    | nil=>simp_all[Instr.fill]
    | cons x l ih=>
     intro c c' hh;obtain⟨i,v⟩:=x;simp only[Instr.fill]at hh;split at hh
     .simp at hh
     .split at hh
      .simp at hh
      .rename_i hcond;rw[ih _ _ hh,<-aiZ,ai0];exact(Oh _ v.cells.toList 0 c oZi).1
   grind
  omega
 have hrel:∀(j:Nat) (c:C),flat[j]?=some c->∃u,us'.toList[j]?=some u/\aF X m (st.fresh d) w c u:=by
  intro j c hj;obtain⟨v,e1,e2⟩:=f2.2 j c hj
  simp_all
 have hlenu:us'.toList.length=flat.length:=by simpa using f2.1
 have hrun:(Instr.buildSlice t len (parts.map fun(i,x)=>(i,a.eval x))).run P w=.ok (.slice (some ⟨w.heap.size,0,none⟩) len len) (w.alloc (.cells us' e)):=by
  by_cases hpos:len*ie0.size=0
  .have hl0:len=0:=by
    rw[hes0]at hpos;rcases Nat.mul_eq_zero.1 hpos with h|h
    .exact h
    omega
   subst hl0;have hsz:(sizeOf e).run P w=.ok ie0.size w:=by simp[sizeOf,typeInfo,hie]
   have e0:(Array.range (0*ie0.size)).map (z.cells[· % z.cells.size]!)=#[]:=oZf;rw[e0]at f1;have f1':Instr.fill (fun i=>some (i*ie0.size,ie0.size)) #[] (parts.map fun(i,x)=>(i,a.eval x)).toList=some us':=oZf;unfold Instr.buildSlice;simp only[Sem.run_bind,run_underlying hdd,Result.andThen_ok,hsz];simp only[aiK,Nat.not_lt_zero,gt_iff_lt,if_false,if_true,Sem.run_bind,Sem.run_pure,Result.andThen_ok];rw[show(Array.map (fun x=>((#[]:Array Value)[x % (#[]:Array Value).size]!)) (Array.range 0))=#[]from by simp_all]
   simp_all[newRow]
  simp_all[run_buildSlice]
 refine⟨_,_,hrun,?_⟩;have earr:us'=us'.toList.toArray:=oZk;rw[earr];split at hp
 .rename_i hall;simp only[cc]at hp;subst hp;obtain⟨c1,c2,c3⟩:=Qe es len flat hfl;have hlm:len<=maxLen:=by
   have:len*1<=len*es:=aiW _ oZg
   grind[maxLen]
  obtain⟨m',g1,g2,gk⟩:=Se (elem:=e) h1 hd (rows:=rF es len flat) (us:=us'.toList) (es:=es) (cap:=some len) c2 oZg (by rw[c1];simp) oZi oZi oZi;refine⟨m',g1.putTmp d ?_,fun n _ hn=>gk n hn [],fun b hb=>by rw[yA,aiJ,if_neg oZg]⟩;have hp:=qs (X:=X) (w:=w.alloc (.cells us'.toList.toArray e)) (st:={(st.fresh d)with roots:=upd (st.fresh d).roots d (.sl true none es (some len) ((rF es len flat).map (·.map C.frz)))}) (m:=m') (d:=d) (aI _ _ _) (ad:=some ⟨w.heap.size,0,none⟩) (k:=len) oZi (by simp[c1]) (.inr ⟨_,_,rfl⟩)
  grind
 .split at hp
  .rename_i hl1;subst hl1;obtain⟨m',st2,g1,g2,⟨rows,g3⟩,rfl,gk⟩:=RM (elem:=e) h1 hd oZg hlenu hrel hp;refine⟨m',g1.putTmp d ?_,fun n hn hnd=>gk n hn hnd [],fun b hb=>by rw[yA,aiJ,if_neg oZg]⟩;rcases g3 with⟨g3,g4⟩|⟨cap,g3,g4⟩
   .have:=qs (X:=X) (w:=w.alloc (.cells us'.toList.toArray e)) g3 (ad:=some ⟨w.heap.size,0,none⟩) (k:=1) (by rw[g4];exact g2) oZg (.inr ⟨_,_,rfl⟩)
    grind
   .have:=qs (X:=X) (w:=w.alloc (.cells us'.toList.toArray e)) g3 (ad:=some ⟨w.heap.size,0,none⟩) (k:=1) (by rw[g4];exact g2) oZg (.inr ⟨_,_,rfl⟩)
    grind
  .simp at hp
theorem abx{w:World}{S:Nat->Prop}{m:aq->Value}{d:Nat}{p:aq}{c:C}{u:Value}(hc:c.cellOk=true)(h:rel w S L0 m true d p c.frz u):rel w S L0 m false d p c.frz u:=by
 cases d with
 | zero=>exact h.elim
 | succ d=>cases c<;>(try simp[C.cellOk]at hc)<;>simp only[C.frz,rel,aiX]at h ⊢<;>exact h
theorem abw{w w':World}{S S':Nat->Prop}{D:Nat}{c:C}{u:Value}{m:aq->Value}{p:aq}(h:bL w S D c u)(hS:∀b,b<w.heap.size->S b->S' b/\w'.heap[b]?=w.heap[b]?):rel w' S' L0 m false D p c u:=by
 rcases h with⟨rfl,h⟩|⟨c0,rfl,h1,h2⟩
 .cases D with
  | zero=>omega
  | succ D=>trivial
 have:=az (m':=dm) (p':=[]) hS D (L':=L0) (fun _ _ _ h=>h) (fun h=>by simp at h) (fun h=>by simp at h) h2
 grind[abx,FC]
def Ul{E:Env}(hT:TOk P E)(h:av X m st a w){t:Nat}{ti:TI}(ht:fc P t ti){len:Nat}{parts:Array (Nat×Operand)}{e es:Nat}(hkind:ti.kind=.slice e es)(hE:¬(E.T e).isNone=true){flat:List C}
  (hflat:tF E {ti with kind:=.arr len e es} (parts.toList.map fun x=>(x.1,st.ev x.2)) (List.replicate (len*es) .dead)=some flat) (hc1:len*es<=16777216) (hc2:es≠0):
  ∃us':Array Value,(Instr.buildSlice t len (parts.map fun(i,x)=>(i,a.eval x))).run P w=.ok (.slice (some ⟨w.heap.size,0,none⟩) len len) (w.alloc (.cells us' e))/\us'.toList.length=flat.length/\flat.length=len*es ∧
   ∀(j:Nat) (c:C),flat[j]?=some c->∃u,us'.toList[j]?=some u/\aF X m st w c u:=by
 obtain⟨dd,hdd,_,hk⟩:=ht.und;rw[hkind]at hk;obtain⟨rfl,ie0,hie0,hes0⟩:=hk;have hE:∃te,E.T e=some te:=by cases hh:E.T e with|none=>simp_all|some te=>simp_all
 obtain⟨te,hte⟩:=hE;obtain⟨ie,hie,hie1,hie2,z,hz,hzc⟩:=(hT e te hte).info;rw[hie]at hie0;cases hie0;have init:Rd X m st w (List.replicate (len*es) .dead) ((Array.range (len*ie0.size)).map (z.cells[· % z.cells.size]!)):=by
  refine⟨by simp[hes0],?_⟩;intro j c hj;simp only[ai1]at hj;split at hj
  .rename_i hlt;simp only[cc]at hj;subst hj;exact⟨_,by rw[ai2,ai3,if_pos oZf];rfl,.dead⟩
  .simp at hj
 obtain⟨us',f1,f2⟩:=LR (E:=E) h (ti:={ti with kind:=.arr len e es}) (place:=fun i=>some (i*ie0.size,ie0.size)) (by
  simp_all) parts.toList _ _ flat init hflat
 have hfl:flat.length=len*es:=by
  have:=f2.1;have h2:us'.size=len*es:=by
   have key:∀(place:Nat->Option (Nat×Nat)) (l:List (Nat×Value)) (c c':Array Value),Instr.fill place c l=some c'->c'.size=c.size:=by
    intro place l
    induction l with
    | nil=>simp_all[Instr.fill]
    | cons x l ih=>
     intro c c' hh;obtain⟨i,v⟩:=x;simp only[Instr.fill]at hh;split at hh
     .simp at hh
     .split at hh
      .simp at hh
      .rename_i hcond;rw[ih _ _ hh,<-aiZ,ai0];exact(Oh _ v.cells.toList 0 c oZi).1
   grind
  omega
 have hrel:∀(j:Nat) (c:C),flat[j]?=some c->∃u,us'.toList[j]?=some u/\aF X m st w c u:=by
  intro j c hj;obtain⟨v,e1,e2⟩:=f2.2 j c hj
  simp_all
 have hlenu:us'.toList.length=flat.length:=by simpa using f2.1
 have hrun:(Instr.buildSlice t len (parts.map fun(i,x)=>(i,a.eval x))).run P w=.ok (.slice (some ⟨w.heap.size,0,none⟩) len len) (w.alloc (.cells us' e)):=by
  by_cases hpos:len*ie0.size=0
  .have hl0:len=0:=by
    rw[hes0]at hpos;rcases Nat.mul_eq_zero.1 hpos with h|h
    .exact h
    omega
   subst hl0;have hsz:(sizeOf e).run P w=.ok ie0.size w:=by simp[sizeOf,typeInfo,hie]
   have e0:(Array.range (0*ie0.size)).map (z.cells[· % z.cells.size]!)=#[]:=oZf;rw[e0]at f1;have f1':Instr.fill (fun i=>some (i*ie0.size,ie0.size)) #[] (parts.map fun(i,x)=>(i,a.eval x)).toList=some us':=oZf;unfold Instr.buildSlice;simp only[Sem.run_bind,run_underlying hdd,Result.andThen_ok,hsz];simp only[aiK,Nat.not_lt_zero,gt_iff_lt,if_false,if_true,Sem.run_bind,Sem.run_pure,Result.andThen_ok];rw[show(Array.map (fun x=>((#[]:Array Value)[x % (#[]:Array Value).size]!)) (Array.range 0))=#[]from by simp_all]
   simp_all[newRow]
  simp_all[run_buildSlice]
 grind
def av.grow{w':World}(h:av X m st a w)(hsz:w.heap.size<=w'.heap.size)(hold:∀b,b<w.heap.size->w'.heap[b]?=w.heap[b]?)(ho:w'.os=w.os)(ht:w'.tape=w.tape)(hu:w'.output=w.output)(hdr:w.drawn<=w'.drawn:=by first|exact ck _|exact n7 _):av X m st a w':=by
 refine h.go (ch:=[]) ⟨rfl,fun t c ht=>.inr ⟨ht,fun _ _ _ _ h=>h⟩,fun b hb _=>hold b hb,hsz,⟨fun n p=>(n,p),none,?_,?_⟩,?_,fun _ n hn=>by simp at hn,ho,ht,hu,hdr⟩
 .intro n p b ho hb;exact .inr ⟨by simp,ho,hb,h.lt ho hb⟩
 .simp_all
 simp_all
def K8{cp:Option Nat}{E:Env}(hT:TOk P E)(h:av X m st a w){t:Nat}{ti:TI}(ht:fc P t ti){d len:Nat}{parts:Array (Nat×Operand)}{st':St}(hp:uZ E cp d ti len parts.toList st=some st')(hcp:cp=none∨cp=some len):
  ∃u w',(Instr.buildSlice t len (parts.map fun(i,x)=>(i,a.eval x))).run P w=.ok u w'/\∃m',av X m' st' (a.put (some d) u) w'/\(∀n,n<H0->n≠d->m' n []=m n [])/\∀b,b<w.heap.size->w'.heap[b]?=w.heap[b]?:=by
 unfold uZ at hp;split at hp
 case h_2=>simp at hp
 rename_i e es hkind;split at hp
 case isTrue=>simp at hp
 rename_i hE;split at hp
 case h_2=>simp at hp
 rename_i flat hflat;split at hp
 case isFalse=>simp at hp
 rename_i hc;split at hp
 case isFalse=>simp at hp
 rename_i hall;simp only[cc]at hp;subst hp;obtain⟨us',hrun,hlen,hfl,hrel⟩:=Ul hT h ht hkind hE hflat hc.1 hc.2;refine⟨_,_,hrun,m,?_⟩;have hlm:len<=maxLen:=by
  have:len*1<=len*es:=aiW _ oZg
  grind[maxLen]
 have hold:∀b,b<w.heap.size->(w.alloc (.cells us' e)).heap[b]?=w.heap[b]?:=by
  intro b hb;rw[yA,aiJ,if_neg oZg]
 have hg:av X m st a (w.alloc (.cells us' e)):=h.grow oZf hold rfl rfl rfl;obtain⟨c1,c2,c3⟩:=Qe es len flat hfl;obtain⟨D,hD⟩:=Qc hall hlen hrel;have hrows:=Rz c2 (us:=us'.toList) (D:=D) (S:=X.S st.roots m) (w:=w) oZf;refine⟨hg.putTmp d ?_,fun _ _ _=>rfl,hold⟩;refine⟨D+1,some ⟨w.heap.size,0,none⟩,len,by simp[c1],by simp[c1],hlm,by rcases hcp with rfl|rfl<;>simp,⟨oZk,oZk⟩,?_,oZk,?_⟩
 .simp_all
 .refine .inr (.inr ⟨w.heap.size,0,us',e,(0,0),rfl,by rw[yA];simp,fun _=>⟨.inr h.fr.size,?_⟩,oZk,?_⟩)
  .rintro⟨n,p,ho,hb⟩;have:=h.lt ho hb;omega
  grind[abw]
def Nc{E:Env}(hT:TOk P E)(h:av X m st a w){t:Nat}{ti:TI}(ht:fc P t ti){d len:Nat}{parts:Array (Nat×Operand)}{st':St}(hp:o7 E d ti len parts.toList st=some st'):
  ∃u w',(Instr.buildSlice t len (parts.map fun(i,x)=>(i,a.eval x))).run P w=.ok u w'/\∃m',av X m' st' (a.put (some d) u) w'/\(∀n,n<H0->n≠d->m' n []=m n [])/\∀b,b<w.heap.size->w'.heap[b]?=w.heap[b]?:=by
 unfold o7 at hp;split at hp
 .exact K8 hT h ht hp (.inl rfl)
 .exact K8 hT h ht hp (.inr rfl)
 grind[Ua]
def WX:∀(cs:List C) {j n:Nat} {q:aq} {i:Nat} {us:List Value} {m:Nat->aq->Value} {st st':St} {w:World} {nl:Option Bool} {es:Nat} {cap:Option Nat} {rows:List (List C)} {b off kk:Nat},us.length=cs.length->av X m st a w->st.roots H0=.dead ->
  cs.all C.cellOk=true->(∀(x:Nat) (c:C),cs[x]?=some c->∃u,us[x]?=some u/\aF X m st w c u) ->
  st.node n q=some (.sl true nl es cap rows)->m n q=.slice (some ⟨b,off,none⟩) rows.length kk->jA n q i j cs st=some st' ->
  (∃m',av X m' st' a (w.setCells b (off+i*es+j) us))/\(cs=[]∨∃row,rows[i]?=some row/\j+cs.length<=row.length):=by
 intro cs
 induction cs with
 | nil=>
  intro j n q i us m st st' w nl es cap rows b off kk hu H hd hall hr hn hm hp;simp only[jA,cc]at hp;subst hp;have:us=[]:=nb oZg;subst this;exact⟨⟨m,H⟩,.inl rfl⟩
 | cons c cs ih=>
  intro j n q i us m st st' w nl es cap rows b off kk hu H hd hall hr hn hm hp;cases us with
  | nil=>simp at hu
  | cons u us=>
   simp only[jA,hn]at hp;split at hp
   case h_2=>simp at hp
   rename_i row hrow;split at hp
   case isFalse=>simp at hp
   rename_i hc;obtain⟨hj,hnH⟩:=hc;simp only[nR,cx]at hall;obtain⟨u0,hu0,d,hru⟩:=hr 0 c rfl;simp only[cG,cc]at hu0;subst hu0;have hne:H0≠n:=oZg;have hc0:row[j]?=some row[j]:=cj hj;obtain⟨e1,⟨d2,e2⟩,_,rfl,e3⟩:=H.hand hd hall.1 hru;have hn2:(upd st.roots H0 c.frz n).at q=some (.sl true nl es cap rows):=by rw[aV hne.symm];exact hn
   have e2':rel w (X.S (upd st.roots H0 c.frz) m) L0 (m H0) true d2 [] (upd st.roots H0 c.frz H0) u:=by rw[aI];exact e2
   have est0:upd (upd (upd st.roots H0 c.frz) n ((upd st.roots H0 c.frz n).turn (fun _=>upd st.roots H0 c.frz H0) (q++[(i,j)]))) H0 .dead=upd st.roots n ((st.roots n).turn (fun _=>c.frz) (q++[(i,j)])):=by
    simp only[aI]
    funext k
    grind[upd,H0]
   obtain⟨P1,P2⟩:av X (sn m n (q++[(i,j)]) H0) {tmps:=CF n q i j row st.tmps,roots:=upd st.roots n ((st.roots n).turn (fun _=>c.frz) (q++[(i,j)]))} a (w.setCell ⟨b,off+i*es+j,none⟩ u)∧
     eL X m {tmps:=st.tmps,roots:=upd st.roots H0 c.frz} w (sn m n (q++[(i,j)]) H0) {tmps:=CF n q i j row st.tmps,roots:=upd st.roots n ((st.roots n).turn (fun _=>c.frz) (q++[(i,j)]))} (w.setCell ⟨b,off+i*es+j,none⟩ u) [n,H0]:=by
    by_cases hleaf:Ei row[j]=true
    .have ep:CF n q i j row st.tmps=st.tmps:=by simp_all[CF]
     rw[ep,<-est0];exact e1.plugN (by simp_all[aI,qM]) hleaf hne hn2 hrow hc0 hm e2'
    .have ep:CF n q i j row st.tmps=st.tmps.map (poi fun n' p'=>n' == n&&ph (q++[(i,j)]) p'):=by simp_all[CF]
     rw[ep,<-est0];exact e1.plug (f:=fun n' p'=>n' == n&&ph (q++[(i,j)]) p') oZf (by simp_all[aI,qM]) hne hn2 hrow hc0 hm e2'
   obtain⟨rows',hrows'⟩:∃r,r=rows.modify i (·.modify j (fun _=>c.frz)):=⟨_,rfl⟩;have hnode:(St.node {tmps:=CF n q i j row st.tmps,roots:=upd st.roots n ((st.roots n).turn (fun _=>c.frz) (q++[(i,j)]))} n q)=some (.sl true nl es cap rows'):=by
    have hn':(st.roots n).at q=some (.sl true nl es cap rows):=hn;have:=C.at_turn_self (fun x=>x.turn (fun _=>c.frz) [(i,j)]) q [] (st.roots n) _ hn'
    simp_all[St.node,aI,C.turn_append,C.at,C.turn]
   have hqoff:∀r,q≠q++[(i,j)]++r:=oZf;have hlen:rows'.length=rows.length:=oZf;obtain⟨⟨m',f1⟩,f2⟩:=ih (j:=j+1) (us:=us) oZf P1 (by simp_all[upd,H0]) hall.2 (by
    intro x c' hx;obtain⟨v,g1,g2⟩:=hr (x+1) c' oZf;have hok:=cE.1 hall.2 c' (cd hx);exact⟨v,oZf,P2.relT hok (e3.relT hok g2)⟩) hnode (by rw[uJ _ _ _ _ _ hqoff,hlen];exact hm) hp
   refine⟨⟨m',?_⟩,.inr ⟨row,hrow,?_⟩⟩
   .grind[World.setCells]
   grind
def adA{E:Env}(h:av X m st a w){t:Nat}{ti:TI}(ht:fc P t ti){x v:C}{ux uv:Value}(hx:aF X m st w x ux)(hv:aF X m st w v uv){st':St}(hp:lS ti x v st=some st'):
  ∃w',(Instr.storeAt t ux uv).run P w=.ok () w'/\∃m',av X m' st' a w':=by
 unfold lS at hp;split at hp
 case h_2=>simp at hp
 rename_i cells n q i j hun;obtain⟨e1,e2,e3⟩:=Jk hv hun;have hrun:∀{n:Nat} {q:aq} {i j:Nat} {m:Nat->aq->Value} {st:St} {nl:Option Bool} {es:Nat} {cap:Option Nat} {rows:List (List C)} {row:List C} {b off kk:Nat},av X m st a w->st.node n q=some (.sl true nl es cap rows)->m n q=.slice (some ⟨b,off,none⟩) rows.length kk->rows[i]?=some row->j+cells.length<=row.length ->
   (∀v∈uv.cells.toList,v.oneCell'=true)->(Instr.storeAt t (.pointer (some ⟨b,off+i*es+j,none⟩)) uv).run P w=.ok () (w.setCells b (off+i*es+j) uv.cells.toList):=by
  intro n q i j m st nl es cap rows row b off kk H hn hm hrow hjl h1;obtain⟨b',off',k',arr,elem,g1,g2,g3,g4,g5,g6,g7⟩:=Ls H hn hrow;rw[hm]at g1;simp only[Value.slice.injEq,cc,Addr.mk.injEq,and_true,true_and]at g1;obtain⟨⟨rfl,rfl⟩,rfl⟩:=g1;have hil:=(cg.1 hrow).1;have hin:∀x,x<uv.cells.toList.length->off+i*es+j+x<arr.size:=by
   intro x hx;have:(i+1)* es<=kk*es:=nr _ oZg
   grind
  have hst:=run_storeCells_cells (P:=P) b (off+i*es+j) uv.cells.toList 0 w (by
   intro x hx;simp only[xz];rw[mu g3]
   simp_all) (by
   simp_all[World.frozen?]) h1
  have hsz:uv.cells.size=ti.size:=oZf;simp only[xz]at hst;simp[Instr.storeAt,Instr.sureAddr,storeVar,ht.size,hsz,hst]
 split at hp
 .rename_i hall;split at hp
  case isFalse=>simp at hp
  rename_i hd;obtain⟨nl,es,cap,rows,b,off,kk,f1,f2,rfl⟩:=pf hx;obtain⟨⟨m',g1⟩,g2⟩:=WX cells e2 h (Du hd) hall e3 f1 f2 hp;have hone:∀v∈uv.cells.toList,v.oneCell'=true:=by
   intro v hv;obtain⟨x,hx⟩:=cC hv;have hlt:x<cells.length:=oZi;obtain⟨v',c1,c2⟩:=e3 x cells[x] (cj hlt)
   grind[ab4]
  rcases g2 with rfl|⟨row,g3,g4⟩
  .simp only[jA,cc]at hp;subst hp;have hnil:uv.cells.toList=[]:=nb oZg;rw[hnil]at g1;have hsz:uv.cells.size=ti.size:=oZf;refine⟨w,?_,m',g1⟩;simp[Instr.storeAt,Instr.sureAddr,storeVar,ht.size,hsz,hnil,storeCells]
  .exact⟨_,hrun h f1 f2 g3 g4 hone,m',g1⟩
 .split at hp
  case h_2=>simp at hp
  rename_i st1 n q i j hprep;obtain⟨m1,g1,g2,g3,g4,g5,g6⟩:=D9 cells.length rfl e2 (ck _) h e3 hx hprep;obtain⟨nl,es,cap,rows,b,off,kk,f1,f2,rfl⟩:=pf g2;obtain⟨m',k1,k2,k3,k3',k4,k5⟩:=Mj cells.length (us:=uv.cells.toList) e2 (ck _) g1 f1 f2 g3 hp;rcases k5 with k5|⟨row,k5,k6⟩
  .grind
  .exact⟨_,hrun g1 f1 f2 k5 k6 g6,m',k1⟩
end
end Go.Abs
namespace Go.Abs
def frzRows(rows:List (List C)):List (List C):=rows.map (·.map C.frz)
def plainCell(c:C):Bool:=c.cellOk && !c.isOwn
def j8(st:St)(es:Nat):C->Option (List (List C))
 | .val (.slice none 0 0)=>some []
 | .sl _ _ es' _ rows=>if es'=es/\rows.all (·.all C.cellOk)=true then some (frzRows rows)else none
 | .pal n p lo len _=>match st.node n p with
  | some (.sl true _ es' _ rows)=>if es'=es/\((rows.drop lo).take len).all (·.all plainCell)=true then some (frzRows ((rows.drop lo).take len))else none
  | _=>none
 | _=>none
def adopt(d es:Nat)(st:St):St:={st with roots:=upd st.roots d (.sl true none es none [])}
def BD(d es:Nat)(s:C)(st:St):Option (St×List (List C)):=
 match s with
 | .val (.slice none 0 0)=>some (adopt d es (st.fresh d),[])
 | .sl _ _ es' (some 0) []=>if es'=es then some (adopt d es (st.fresh d),[])else none
 | .pal n p lo len cap=>match st.node n p with
  | some (.sl true _ es' _ rows)=>if es'=es then
    if n=d then(if p=[]/\lo=0/\len=rows.length then some (st,rows)else none)
    else if n<H0 then some ((st.fresh d).move n p lo len cap d es rows,(rows.drop lo).take len)else none
   else none
  | _=>none
 | _=>none
def grown(d es:Nat)(rows:List (List C))(st:St):St:=
 {tmps:=st.tmps.map (poi fun n' _=>n' == d),roots:=upd st.roots d (.sl true none es none rows)}
def BE(E:Env)(d:Nat)(ti:TI)(s x:Operand)(st:St):Option St:=
 match ti.kind with
 | .slice e es=>match E.T e with
  | some te=>if es=0∨¬d<H0 then none else match j8 st es (st.ev x)with
   | some extra=>match BD d es (st.ev s) st with
    | some (st1,rows)=>if(rows.length+extra.length)*(te.bytes-1+1)<=140737488355328 then
      some {(grown d es (rows++extra) st1)with tmps:=(grown d es (rows++extra) st1).tmps.set d (.pal d [] 0 (rows++extra).length none)}else none
    | none=>none
   | none=>match st.ev x with
    | .pal n p lo 1 _=>match st.node n p with
     | some (.sl true _ es' _ srows)=>match srows[lo]? with
      | some row=>if es'=es then match kV es H0 (lP n p lo 0 row) (st.ev s) st with
        | some (st',s')=>match BD d es s' st' with
         | some (st1,rows)=>if(rows.length+1)*(te.bytes-1+1)<=140737488355328 then
           match pS d [] rows.length 0 es H0 (grown d es (rows++[row.map fun _=>.dead]) st1)with
           | some st2=>some {st2 with tmps:=st2.tmps.set d (.pal d [] 0 (rows.length+1) none)}
           | none=>none
          else none
         | none=>none
        | none=>none
       else none
      | none=>none
     | _=>none
    | _=>none
  | none=>none
 | _=>none
section
variable {X:Ctx} {m:Nat->aq->Value} {st:St} {a:Act} {w:World} {P:Program}
theorem av.adopt(h:av X m st a w){d:Nat}(hd:st.roots d=.dead)(es:Nat)(ad:Option Addr):
  av X (mP m d (.slice ad 0 0)) (adopt d es st) a w/\eL X m st w (mP m d (.slice ad 0 0)) (adopt d es st) w [d]:=by
 have hnb:∀b,blk (.slice ad 0 0)≠some b:=by intro b;cases ad<;>simp[blk]
 have hown:∀p,ak (.sl true none es none []) p->p=[]:=by
  intro p ho;cases p with
  | nil=>rfl
  | cons s p=>grind[ak,C.at,C.kid]
 refine FU h ?_;refine⟨rfl,?_,fun _ _ _=>rfl,ck _,⟨fun n p=>(n,p),none,?_,?_⟩,?_,?_,rfl,rfl,rfl,ck _⟩
 .intro t c ht;refine .inr ⟨ht,fun v u dd ho hl=>?_⟩;cases hp:v.place with
  | none=>cases v<;>simp[C.place]at hp<;>exact hl.elim
  | some np=>
   obtain⟨n',p⟩:=np;have hne:n'≠d:=by rintro rfl;grind[CX]
   refine mn hp (iK _ _ _ (fun e=>hne e.1)) ?_ hl;intro nl es2 cap2 rows2 he;exact⟨cap2,rows2,by simp_all[Abs.adopt,aV],rfl⟩
 .intro n p b ho hb;by_cases e:n=d
  .subst e;simp only[Abs.adopt,aI]at ho;obtain rfl:=hown p ho
   simp_all[bz]
  .simp only[Abs.adopt,aV e]at ho;rw[iK _ _ _ (fun h=>e h.1)]at hb;exact .inr ⟨oZk,ho,hb,h.lt ho hb⟩
 .simp_all
 .intro n e;have e:n≠d:=by simpa using e
  exact⟨by simp[Abs.adopt,aV e],fun q _=>iK _ _ _ (fun h=>e h.1),fun q b ho hb hlt=>rfl⟩
 .intro hS n e;obtain rfl:n=d:=by simpa using e
  refine⟨mP m n (.slice ad 0 0) n [],2,?_⟩;simp only[Abs.adopt,aI];exact qt (d:=1) (a:=ad) (k:=0) (by rw[bz];rfl) oZk (by simp[maxLen]) oZk ⟨oZk,oZk⟩ oZk (.inl rfl)
structure FN (P:Program) (X:Ctx) (m:Nat->aq->Value) (st:St) (w:World) (es:Nat) (t:TypeId) (u:Value) (extra:List (List C)) (news:List Value) (D:Nat):Prop where
 src:∀w':World,w'.heap=w.heap->Src P es t u extra.length news w'
 len:news.length=extra.length*es
 rows:∀row∈extra,row.length=es
 cell:∀(i j:Nat) (row:List C) (c:C),extra[i]?=some row->row[j]?=some c->∃v,news[i*es+j]?=some v/\bL w (X.S st.roots m) D c v
def abe{arr:Array Value}{off es n:Nat}(hes:es≠0){rows:List (List C)}(hlen:∀row∈rows,row.length=es)(hn:rows.length=n)
  (h:∀(i j:Nat) (row:List C) (c:C),rows[i]?=some row->row[j]?=some c->∃u,arr[off+i*es+j]?=some u/\u.oneCell'=true):
  ∃news:List Value,news.length=n*es/\(∀(x:Nat) (u:Value),news[x]?=some u->arr[off+x]?=some u)/\(∀u∈news,u.oneCell'=true)/\∀(x:Nat),x<n*es->∃u,news[x]?=some u/\arr[off+x]?=some u:=by
 have key:∀x,x<n*es->∃u,arr[off+x]?=some u/\u.oneCell'=true:=by
  intro x hx;have hi:x / es<rows.length:=by simp_all[ajr,xP]
  have hj:x % es<es:=Nat.mod_lt _ oZg;have hr:rows[x / es]?=some rows[x / es]:=cj hi;have hrl:=hlen rows[x / es] (nx hi);obtain⟨u,h1,h2⟩:=h (x / es) (x % es) _ _ hr (cj oZg)
  grind[Nat.div_add_mod]
 refine⟨(List.range (n*es)).map fun x=>(arr[off+x]?).getD undef,oZk,?_,?_,?_⟩
 .grind
 .grind
 grind
def Qd{rows:List (List C)}{i j:Nat}{row:List C}{c:C}(h1:(frzRows rows)[i]?=some row)(h2:row[j]?=some c):∃r0 c0,rows[i]?=some r0/\r0[j]?=some c0/\c=c0.frz:=by
 simp only[frzRows,cz,cq]at h1
 grind
def UB{S:Nat->Prop}{L:C->Value->Prop}{m:aq->Value}{o:Bool}{d:Nat}{p:aq}{c:C}{u:Value}(hc:c.cellOk=true)(ho:c.isOwn=false∨o=false)(h:rel w S L m o d p c u):rel w S L0 dm false d [] c u:=by
 cases d with
 | zero=>exact h.elim
 | succ d=>
  cases c with
  | dead=>trivial
  | val v=>exact h
  | sl own nl es cap rows=>
   have e:(own&&o)=false:=by
    rcases ho with ho|ho
    .cases own
     .rfl
     simp_all[C.isOwn]
    .simp[ho]
   obtain⟨a,k,h1,h2,h3,h4,hz,h5,h6,h7⟩:=h;refine⟨a,k,h1,h2,h3,h4,hz,h5,oZk,?_⟩
   grind[bY]
  | iref es rows i j=>
   obtain⟨b,off,arr,elem,frz,g1,g2,g3,g4,g5⟩:=h;exact⟨b,off,arr,elem,frz,g1,g2,g3,g4,fun i j row c' e1 e2=>let⟨u',e3,e4⟩:=g5 i j row c' e1 e2;⟨u',e3,bY e4⟩⟩
  | clo f cs=>
   obtain⟨arr,h1,h2,h3⟩:=h;refine⟨arr,h1,h2,fun j c' e=>?_⟩;obtain⟨u',e1,e2⟩:=h3 j c' e;refine⟨u',e1,az (fun _ _ h=>⟨h,rfl⟩) d (fun v u ho hl=>?_) (fun h=>by simp at h) (fun h=>by simp at h) e2⟩;exact(EF hc (d+1) ⟨c',cd e,ho⟩).elim
  | agg cs=>grind[C.cellOk]
  | tup cs=>grind[C.cellOk]
  | pref n q i j=>grind[C.cellOk]
  | pal n q lo len cap=>grind[C.cellOk]
theorem abS{S:Nat->Prop}{c:C}{u:Value}{d:Nat}(hc:c.cellOk=true)(h:rel w S L0 dm false d [] c u):u.oneCell'=true:=by
 cases d with
 | zero=>exact h.elim
 | succ d=>
  cases c with
  | val v=>have:u=v:=h;subst this;exact hc
  | sl own nl es cap rows=>obtain⟨a,k,rfl,_⟩:=h;rfl
  | clo f cs=>obtain⟨arr,rfl,_⟩:=h;unfold H7;split<;>rfl
  | iref es rows i j=>obtain⟨b,off,arr,elem,frz,rfl,_⟩:=h;rfl
  | _=>grind[C.cellOk]
def aa4{w w':World}(h:w'.heap=w.heap)(x:Addr):w'.cell? x=w.cell? x:=by simp[World.cell?,h]
def Bh{E:Env}(hT:TOk P E)(h:av X m st a w){t:Nat}{ti:TI}(ht:fc P t ti){e es:Nat}(hkind:ti.kind=.slice e es)(hes:es≠0){x:C}{u:Value}(hx:aF X m st w x u){extra:List (List C)}(hs:j8 st es x=some extra):
  ∃news D,FN P X m st w es t u extra news D:=by
 obtain⟨dd,hdd,_,hk⟩:=ht.und;rw[hkind]at hk;obtain⟨rfl,_⟩:=hk;have fin:∀(rows:List (List C)) (b off n k:Nat) (arr:Array Value) (elem:TypeId) (fz:Nat×Nat) (D:Nat),w.heap[b]?=some (.cells arr elem fz)->(∀row∈rows,row.length=es)->rows.length=n ->
   (∀(i j:Nat) (row:List C) (c:C),rows[i]?=some row->row[j]?=some c->c.cellOk=true/\∃v,arr[off+i*es+j]?=some v/\rel w (X.S st.roots m) L0 dm false D [] c v) ->
   ∃news D,FN P X m st w es t (.slice (some ⟨b,off,none⟩) n k) (frzRows rows) news D:=by
  intro rows b off n k arr elem fz D hb hlen hn hcell;obtain⟨news,n1,n2,n3,n4⟩:=abe (arr:=arr) (off:=off) hes hlen hn (fun i j row c h1 h2=>by
   grind[abS])
  refine⟨news,D,?_,by simp[frzRows,hn,n1],?_,?_⟩
  .grind[frzRows,Src.ofSlice,Addr.add_lit,mu]
  .intro row hrow;simp only[frzRows,cH]at hrow;obtain⟨r,hr,rfl⟩:=hrow;simp[hlen r hr]
  .intro i j row c h1 h2;obtain⟨r0,c0,g1,g2,rfl⟩:=Qd h1 h2;obtain⟨c1,v,c2,c3⟩:=hcell i j r0 c0 g1 g2;have hi:=(cg.1 g1).1;have hj:j<es:=oZi;have hlt:i*es+j<n*es:=by
    have:(i+1)* es<=n*es:=nr _ oZg
    grind
   obtain⟨v',e1,e2⟩:=n4 _ hlt;rw[nw]at c2;rw[c2]at e2;cases e2;exact⟨v,e1,.inr ⟨c0,rfl,c1,c3⟩⟩
 have empty:∀(ad:Option Addr) (k:Nat),∃news D,FN P X m st w es t (.slice ad 0 k) [] news D:=by
  intro ad k;refine⟨[],1,?_,oZk,oZk,oZk⟩;intro w' _;cases ad with
  | none=>exact Src.ofNil w' hdd k
  | some ad=>simp_all[Src.ofSlice]
 unfold j8 at hs;split at hs
 .simp only[cc]at hs;subst hs;obtain rfl:=hx.of_val
  simp_all
 .rename_i own nl es' cap rows;split at hs
  .rename_i hc;obtain⟨he,hall⟩:=hc;subst he;simp only[cc]at hs;subst hs;obtain⟨a0,k0,rfl,g2,g3,g4,gz,g5,g6⟩:=Be hx;rcases g6 with rfl|⟨b,off,arr,elem,frz,rfl,f2,f3,D,f5⟩
   .exact empty a0 k0
   .refine fin rows b off rows.length k0 arr elem frz D f2 g5 rfl ?_
    grind
  .simp at hs
 .rename_i n p lo len cap;split at hs
  .rename_i nl es' cap' rows hn;split at hs
   .rename_i hc;obtain⟨he,hall⟩:=hc;subst he;simp only[cc]at hs;subst hs;obtain⟨nl',es'',cap'',rows',a0,k0,a',k',g1,g2,g3,rfl,g5,g6,g7,g8,g9⟩:=eD hx;have hn':(st.roots n).at p=some (.sl true nl es' cap' rows):=hn;rw[hn']at g1;simp only[cc,C.sl.injEq,true_and]at g1;obtain⟨rfl,rfl,rfl,rfl⟩:=g1;have hwl:((rows.drop lo).take len).length=len:=oZd;by_cases hl0:len=0
    .simp_all[frzRows]
    .obtain⟨u0,d0,hr0⟩:=h.root n;obtain⟨u1,d1,hr1⟩:=A8 p hr0 hn';simp only[cO]at hr1;obtain⟨a1,k1,D,e1,e2,e3,e4,e5,ez,e6,e7⟩:=ei hr1;rw[g2]at e2;simp only[Value.slice.injEq]at e2;obtain⟨rfl,_,rfl⟩:=e2;rcases g9 with g9|⟨b,off,rfl,rfl⟩
     .omega
     .rcases e7 with e7|⟨b',off',arr,elem,f1,f2,f4,f5⟩
      .omega
      .simp only[cc,Addr.mk.injEq]at f1;obtain⟨rfl,rfl,_⟩:=f1;refine fin _ b (off+lo*es') len k' arr elem (0,0) D f2 (fun row hrow=>e6 row (xK (nJ hrow))) hwl ?_;intro i j row c h1 h2;have hpl:=cE.1 (cE.1 hall row (cd h1)) c (cd h2);simp only[plainCell,cx,ny]at hpl;rw[nt]at h1;split at h1
       .rw[nz]at h1;obtain⟨v,f6,f7⟩:=f5 (lo+i) j row c h1 h2;exact⟨hpl.1,v,oZi,UB hpl.1 (.inl hpl.2) f7⟩
       .simp at h1
   .simp at hs
  .simp at hs
 .simp at hs
end
end Go.Abs
namespace Go.Abs
section
variable {X:Ctx} {m:Nat->aq->Value} {st:St} {a:Act} {w:World} {P:Program}
def M9{b:Nat}:∀(vs:List Value) (o:Nat) {w:World} {arr:Array Value} {elem:TypeId} {fz:Nat×Nat},w.heap[b]?=some (.cells arr elem fz) ->
  ∃arr',(w.setCells b o vs).heap[b]?=some (.cells arr' elem fz)/\arr'.size=arr.size/\∀x,x<arr.size->arr'[x]?=if o<=x/\x<o+vs.length then vs[x-o]? else arr[x]?:=by
 intro vs
 induction vs with
 | nil=>intro o w arr elem fz h;exact⟨arr,h,rfl,fun x _=>oZf⟩
 | cons v vs ih=>
  intro o w arr elem fz h;obtain⟨arr',h1,h2,h3⟩:=ih (o+1) (N7 w b o v arr elem fz h);refine⟨arr',h1,by rw[h2];simp,fun x hx=>?_⟩
  grind
def KL{b:Nat}:∀(vs:List Value) (o:Nat) {w:World} {b':Nat},b'≠b->(w.setCells b o vs).heap[b']?=w.heap[b']?:=by
 intro vs
 induction vs with
 | nil=>intro o w b' _;rfl
 | cons v vs ih=>simp_all[World.setCells,uz]
def M7{b:Nat}:∀(vs:List Value) (o:Nat) {w:World},(w.setCells b o vs).os=w.os/\(w.setCells b o vs).tape=w.tape/\(w.setCells b o vs).output=w.output/\(w.setCells b o vs).heap.size=w.heap.size:=by
 intro vs
 induction vs with
 | nil=>intro o w;exact⟨rfl,rfl,rfl,rfl⟩
 | cons v vs ih=>
  simp_all[World.setCells,World.setCell]
def KV{b:Nat}:∀(vs:List Value) (o:Nat) {w:World},(w.setCells b o vs).drawn=w.drawn:=by
 intro vs
 induction vs with
 | nil=>intro o w;rfl
 | cons v vs ih=>intro o w;exact ih (o+1) (w:=w.setCell ⟨b,o,none⟩ v)
def bL.mono{w:World}{S S':Nat->Prop}{D:Nat}{c:C}{u:Value}(h:bL w S D c u)(hS:∀b,b<w.heap.size->S b->S' b):bL w S' D c u:=by
 rcases h with h|⟨c0,h1,h2,h3⟩
 .exact .inl h
 .exact .inr ⟨c0,h1,h2,az (fun b hb hs=>⟨hS b hb hs,rfl⟩) D (fun _ _ _ h=>h) (fun h=>by simp at h) (fun h=>by simp at h) h3⟩
def FN.mono{m':Nat->aq->Value}{st':St}{es:Nat}{t:TypeId}{u:Value}{extra:List (List C)}{news:List Value}{D:Nat}(h:FN P X m st w es t u extra news D)(hS:∀b,b<w.heap.size->X.S st.roots m b->X.S st'.roots m' b):FN P X m' st' w es t u extra news D:=
 ⟨h.src,h.len,h.rows,fun i j row c h1 h2=>let⟨v,h3,h4⟩:=h.cell i j row c h1 h2;⟨v,h3,h4.mono hS⟩⟩
def aeG{E:Env}(hT:TOk P E)(H:av X m st a w){t tx ty:Nat}{e es:Nat}(hdd:P.underlying t=some (.slice e)){te:TI}(hte:fc P e te)(hsz:te.size=es)(hes:es≠0){d:Nat}{nl:Option Bool}{cap:Option Nat}{rows extra:List (List C)}(hR:st.roots d=.sl true nl es cap rows)
  {a0 a':Option Addr} {k k':Nat} (hm:m d []=.slice a0 rows.length k) (hk1:k'=0∨a'=a0) (hk2:k'<=k) (hk3:rows.length<=k') (hz:k'=0∨∃b off,a'=some ⟨b,off,none⟩) {x:Value} {news:List Value} {D:Nat} (hS:FN P X m st w es tx x extra news D)
  (hb:(rows.length+extra.length)*(te.bytes-1+1)<=140737488355328):
  ∃r w',(Builtin.append_ #[t,tx] ty #[.slice a' rows.length k',x]).run P w=.ok r w'/\∃m',av X m' (grown d es (rows++extra) st) a w'/\aF X m' (grown d es (rows++extra) st) w' (.pal d [] 0 (rows++extra).length none) r/\(∃ad kk,m' d []=.slice ad (rows++extra).length kk/\(extra≠[]->∃b off arr elem,ad=some ⟨b,off,none⟩/\w'.heap[b]?=some (.cells arr elem)/\∀(y:Nat) (v:Value),news[y]?=some v->arr[off+rows.length*es+y]?=some v))∧
   (∀h,H0<=h->h≠d->∀u dd,rel w (X.S st.roots m) L0 (m h) true dd [] (st.roots h) u->rel w' (X.S (grown d es (rows++extra) st).roots m') L0 (m' h) true dd [] ((grown d es (rows++extra) st).roots h) u)∧
   (∀n,n≠d->ak (st.roots n) []->m' n []=m n []/\∀b,blk (m n [])=some b->w'.heap[b]?=w.heap[b]?):=by
 obtain⟨i,hi,hi1,hi2,z,hzz,hzc⟩:=hte.info;have hzs:z.cells.size=es:=by rw[<-xJ,hzc,hte.zlen,hsz]
 have hisz:i.size=es:=by rw[hi1,hsz]
 have hbb:(rows.length+extra.length)* te.bytes<=140737488355328/\rows.length+extra.length<=140737488355328:=Q4 hb;obtain⟨u0,d0,hr0⟩:=H.root d;rw[hR]at hr0;obtain⟨a1,k1,dd,e1,e2,e3,e4,e5,ez,e6,e7⟩:=ei hr0;rw[hm]at e2;simp only[Value.slice.injEq]at e2;obtain⟨rfl,_,rfl⟩:=e2;have hkk:k'*es<=k*es:=nr _ hk2;by_cases hext:extra=[]
 .subst hext;have hrun:=run_append_nothing (P:=P) w t tx ty e i hdd hi a' rows.length k' hk3 x (by
   have:=hS.src w rfl;have hn:news=[]:=nb (by simpa using hS.len)
   simp_all)
  refine⟨_,_,hrun,?_⟩;by_cases hk0:k'=0
  .
   have hrows:rows=[]:=nb oZg;subst hrows;obtain⟨A1,A2⟩:=(H.drop d).adopt (d:=d) (by simp[St.drop,aI]) es a';have est:adopt d es (st.drop d)=grown d es ([]++[]) st:=by
    simp only[adopt,St.drop,grown,nn]
    congr 1
    funext y
    simp only[upd];split<;>rfl
   rw[est]at A1 A2;refine⟨_,A1,?_,⟨a',0,bz _ _ _,fun h=>absurd rfl h⟩,?_,fun n hn _=>⟨iK _ _ _ (fun h=>hn h.1),fun _ _=>rfl⟩⟩
   .have:=qs (X:=X) (m:=mP m d (.slice a' 0 0)) (st:=grown d es ([]++[]) st) (w:=w) (d:=d) (es:=es) (cap:=none) (nl:=none) (rows:=[]) (ad:=a') (k:=0) (by simp[grown,aI]) (by rw[bz];rfl) oZk (.inl rfl)
    simp_all
   .intro h hh hhd u dd' hr;have s1:eL X m st w m (st.drop d) w [d]:=by
     refine⟨by simp[St.drop],?_,fun _ _ _=>rfl,ck _,⟨fun n p=>(n,p),none,?_,?_⟩,?_,?_,rfl,rfl,rfl,ck _⟩
     .refine Ff fun v u n' p hp hf hl=>mn hp rfl ?_ hl;intro nl es cap rows he;have:n'≠d:=oZf;exact⟨cap,rows,by simp_all[St.drop,aV],rfl⟩
     .intro n' p b ho hb;by_cases e:n'=d
      .simp_all[St.drop,aI,aY]
      .simp only[St.drop,aV e]at ho;exact .inr ⟨oZk,ho,hb,H.lt ho hb⟩
     .simp_all
     .intro n' e;have e:n'≠d:=by simpa using e
      exact⟨by simp[St.drop,aV e],fun _ _=>rfl,fun _ _ _ _ _=>rfl⟩
     .intro hS n' e;obtain rfl:n'=d:=by simpa using e
      exact⟨undef,1,by simp[St.drop,aI,rel]⟩
    exact(A2.keeps oZf).2.2 _ _ ((s1.keeps oZf).2.2 _ _ hr)
  .obtain⟨b,off,hab⟩:∃b off,a'=some ⟨b,off,none⟩:=oZf;have ha0:a0=some ⟨b,off,none⟩:=oZf;rcases e7 with e7|⟨b',off',arr,elem,g1,g2,g4,g5⟩
   .omega
   .rw[ha0]at g1;simp only[cc,Addr.mk.injEq]at g1;obtain⟨rfl,rfl,_⟩:=g1;obtain⟨R1,R2⟩:=H.regrow (w':=w) (n:=d) (D:=1) (cap':=none) (extra:=[]) hR hm (b':=b) (off':=off) (k':=k') oZg oZg oZk oZk g2 oZg
     (.inr ⟨oZg,by rw[ha0];rfl,rfl,fun _ _=>rfl⟩) (by
      grind) oZk rfl rfl rfl
    refine⟨_,R1,?_,⟨some ⟨b,off,none⟩,k',by rw[bz];simp,fun h=>absurd rfl h⟩,fun h hh hhd u dd' hr=>(R2.keeps oZf).2.2 _ _ hr,fun n hn ho=>let z:=R2.keep n oZf;⟨z.2.1 [] ho,fun b hb=>z.2.2 [] b ho hb (H.lt ho hb)⟩⟩;have:=qs (X:=X) (m:=mP m d (.slice (some ⟨b,off,none⟩) (rows.length+([]:List (List C)).length) k')) (st:=grown d es (rows++[]) st) (w:=w) (d:=d) (es:=es) (cap:=none) (nl:=none) (rows:=rows++[]) (ad:=some ⟨b,off,none⟩) (k:=k') (by simp[grown,aI]) (by rw[bz];simp) oZf (.inr ⟨_,_,rfl⟩)
    simp_all
 .have hlpos:extra.length≠0:=oZf;by_cases hroom:rows.length+extra.length<=k'
  .
   obtain⟨b,off,hab⟩:∃b off,a'=some ⟨b,off,none⟩:=oZi;have ha0:a0=some ⟨b,off,none⟩:=oZi;rcases e7 with e7|⟨b',off',arr,elem,g1,g2,g4,g5⟩
   .omega
   .rw[ha0]at g1;simp only[cc,Addr.mk.injEq]at g1;obtain⟨rfl,rfl,_⟩:=g1;have hfit:off+(rows.length+extra.length)* es<=arr.size:=by
     have:(rows.length+extra.length)* es<=k*es:=nr _ oZg;omega
    have hnl:news.length=extra.length*es:=hS.len;have hrun:=run_append_room_src (P:=P) w t tx ty e i hdd hi b off rows.length k' x extra.length news (by rw[hisz];exact hS.src w rfl) hroom (by
     intro j hj;rw[hisz,mu g2]
     grind) (by simp_all[World.frozen?])
    rw[hisz]at hrun;rw[hab];refine⟨_,_,hrun,?_⟩;obtain⟨arr',f1,f2,f3⟩:=M9 news (off+rows.length*es) g2;obtain⟨q1,q2,q3,q4⟩:=M7 (b:=b) news (off+rows.length*es) (w:=w);obtain⟨R1,R2⟩:=H.regrow (hdr:=aiL (KV _ _).symm) (w':=w.setCells b (off+rows.length*es) news) (n:=d) (D:=D) (cap':=none) (extra:=extra) hR hm (b':=b) (off':=off) (k':=k') hroom oZg oZk hS.rows (elem':=elem) f1 oZg
     (.inr ⟨oZg,by rw[ha0];rfl,q4,fun y hy=>KL _ _ hy⟩) (by
      grind) (by
      intro i j row c c1 c2;obtain⟨v,c3,c4⟩:=hS.cell i j row c c1 c2
      grind) q1 q2 q3
    refine⟨_,R1,?_,⟨some ⟨b,off,none⟩,k',by rw[bz];simp,fun _=>⟨b,off,arr',elem,rfl,f1,?_⟩⟩,fun h hh hhd u dd' hr=>(R2.keeps oZf).2.2 _ _ hr,fun n hn ho=>let z:=R2.keep n oZf;⟨z.2.1 [] ho,fun b hb=>z.2.2 [] b ho hb (H.lt ho hb)⟩⟩
    .have:=qs (X:=X) (m:=mP m d (.slice (some ⟨b,off,none⟩) (rows.length+extra.length) k')) (st:=grown d es (rows++extra) st) (w:=w.setCells b (off+rows.length*es) news) (d:=d) (es:=es) (cap:=none) (nl:=none) (rows:=rows++extra) (ad:=some ⟨b,off,none⟩) (k:=k') (by simp[grown,aI]) (by rw[bz];simp) oZf (.inr ⟨_,_,rfl⟩)
     simp_all
    grind
  .
   have holds:∃olds:List Value,olds.length=rows.length*es/\(Builtin.firstCells es rows.length (.slice a' rows.length k')).run P w.drew=.ok olds.toArray w.drew/\∀b off arr elem,a0=some ⟨b,off,none⟩->w.heap[b]?=some (.cells arr elem)->∀x,x<rows.length*es->olds[x]?=arr[off+x]?:=by
    by_cases hr0:rows=[]
    .subst hr0;refine⟨[],oZk,?_,oZk⟩;cases a' with
     | none=>simp_all[run_firstCells_none]
     | some ad=>grind[run_firstCells_some]
    .have hr1:rows.length≠0:=oZf;obtain⟨b,off,hab⟩:∃b off,a'=some ⟨b,off,none⟩:=oZi;have ha0:a0=some ⟨b,off,none⟩:=oZi;rcases e7 with e7|⟨b',off',arr,elem,g1,g2,g4,g5⟩
     .omega
     .rw[ha0]at g1;simp only[cc,Addr.mk.injEq]at g1;obtain⟨rfl,rfl,_⟩:=g1;have hfit:off+rows.length*es<=arr.size:=by
       have:rows.length*es<=k*es:=nr _ oZg;omega
      refine⟨(arr.toList.drop off).take (rows.length*es),oZd,?_,?_⟩
      .rw[hab];refine run_firstCells_some w.drew es rows.length ⟨b,off,none⟩ _ _ _ oZd ?_;intro j v hj;rw[nt]at hj;split at hj
       .rw[nz]at hj;rw[Addr.add_lit,aa4 (w:=w) (w':=w.drew) rfl,mu g2]
        simp_all
       .simp at hj
      grind
   obtain⟨olds,o1,o2,o3⟩:=holds;have hrun:=run_append_grow_src (P:=P) w t tx ty e i z hdd hi hzz a' rows.length k' olds oZf x extra.length news (by rw[hisz];exact hS.src w rfl) oZg oZg (growslice_fits oZg oZf);refine⟨_,_,hrun,?_⟩;have hge:=grownCap_ge w (rows.length+extra.length) k' e;have hle:=grownCap_le_maxLen w (rows.length+extra.length) k' e (by grind[maxLen]);have hnl:news.length=extra.length*es:=hS.len;have hasz:((olds++news).toArray++Builtin.zeroCells z.cells (grownCap w (rows.length+extra.length) k' e -(rows.length+extra.length))).size=grownCap w (rows.length+extra.length) k' e*es:=by
    simp only[xQ,xg,nc,o1,hnl,size_zeroCells,hzs,<-nH]
    simp_all
   obtain⟨R1,R2⟩:=H.regrow (w':=w.drew.alloc (.cells ((olds++news).toArray++Builtin.zeroCells z.cells (grownCap w (rows.length+extra.length) k' e -(rows.length+extra.length))) e)) (n:=d) (D:=D) (cap':=none) (extra:=extra) hR hm (b':=w.heap.size) (off':=0) (k':=grownCap w (rows.length+extra.length) k' e) hge hle oZk hS.rows
    (elem':=e) (heap_alloc_new w.drew _) oZg (.inl ⟨rfl,oZf,fun y hy=>heap_alloc_old w.drew _ y hy⟩) (by
     grind) (by
     intro i j row c c1 c2;obtain⟨v,c3,c4⟩:=hS.cell i j row c c1 c2;have hlt:=(cg.1 c3).1;refine⟨v,?_,c4⟩;rw[ajs oZi];simp only[ajt,cy];rw[ni oZi,o1,<-c3]
     grind) rfl rfl rfl
   refine⟨_,R1,?_,⟨some ⟨w.heap.size,0,none⟩,grownCap w (rows.length+extra.length) k' e,by rw[bz];simp,fun _=>⟨w.heap.size,0,_,e,rfl,heap_alloc_new w.drew _,?_⟩⟩,fun h hh hhd u dd' hr=>(R2.keeps oZf).2.2 _ _ hr,fun n hn ho=>let z:=R2.keep n oZf;⟨z.2.1 [] ho,fun b hb=>z.2.2 [] b ho hb (H.lt ho hb)⟩⟩
   .have:=qs (X:=X) (m:=mP m d (.slice (some ⟨w.heap.size,0,none⟩) (rows.length+extra.length) (grownCap w (rows.length+extra.length) k' e))) (st:=grown d es (rows++extra) st) (w:=w.drew.alloc (.cells ((olds++news).toArray++Builtin.zeroCells z.cells (grownCap w (rows.length+extra.length) k' e -(rows.length+extra.length))) e)) (d:=d) (es:=es) (cap:=none) (nl:=none) (rows:=rows++extra) (ad:=some ⟨w.heap.size,0,none⟩) (k:=grownCap w (rows.length+extra.length) k' e) (by simp[grown,aI]) (by rw[bz];simp) oZf (.inr ⟨_,_,rfl⟩)
    simp_all
   grind
end
end Go.Abs
